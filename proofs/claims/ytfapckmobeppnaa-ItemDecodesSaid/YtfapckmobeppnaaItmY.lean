/- telemeterlaw03.Log: a log as choices say: its walk. -/
import Derived.Test.YtfapckmobeppnaaSpan
namespace Go.Proofs.Ytfapckmobeppnaa.Px
open Go.RowKit Go.Proofs.YtfapckmobeppnaaW.PrintWords Go.Proofs.YtfapckmobeppnaaW.PrintLast Go.Proofs.YtfapckmobeppnaaW.PrintMore
set_option linter.unusedVariables false
set_option linter.unusedSimpArgs false

/-- The four choices: those that are given, then 0. -/
def Lg.row (l : List Int) (i : Nat) : List Int := (l.take i) ++ List.replicate (4 - i) 0
theorem Lg.row_length (l : List Int) (i : Nat) (h : i ≤ l.length) (h2 : i ≤ 4) : (Lg.row l i).length = 4 := by
 rw [Lg.row, List.length_append, List.length_take, List.length_replicate]; omega
theorem Lg.row_set (l : List Int) (i : Nat) (h : i < l.length) (h2 : i < 4) : (Lg.row l i).set i (rd l (i : Int)) = Lg.row l (i + 1) := by
 unfold Lg.row
 rw [List.set_append, if_neg (by rw [List.length_take]; omega), List.length_take, Nat.min_eq_left (by omega), Nat.sub_self]
 obtain ⟨m, hm⟩ : ∃ m, 4 - i = m + 1 := ⟨3 - i, by omega⟩
 have e1 : rd l (i : Int) = l[i] := by simp [rd, List.getD_eq_getElem?_getD, List.getElem?_eq_getElem h]
 have e2 : l.take (i + 1) = l.take i ++ [l[i]] := by rw [List.take_add_one, List.getElem?_eq_getElem h]; rfl
 rw [hm, List.replicate_succ, List.set_cons_zero, show 4 - (i + 1) = m from by omega, e1, e2, List.append_assoc]
 rfl
theorem Lg.row_bytes (l : List Int) (i : Nat) (h : ∀ x ∈ l, 0 ≤ x ∧ x ≤ 255) : ∀ x ∈ Lg.row l i, 0 ≤ x ∧ x ≤ 255 := by
 intro x hx
 rcases List.mem_append.1 hx with hx | hx
 ·exact h x (List.mem_of_mem_take hx)
 ·rw [(List.mem_replicate.1 hx).2]; omega
def Lg.four (k : Nat) : ByteArray := [(⟨#[]⟩ : ByteArray), ⟨#[120]⟩, ⟨#[115, 111, 109, 101, 32, 119, 111, 114, 100, 115]⟩, ⟨#[0]⟩].getD k ⟨#[]⟩
theorem Lg.of_four (W : World) (t : TypeId) (k : Nat) (hk : k < 4) (w' : World) (hb : Below (W.alloc (.cells #[.string ⟨#[]⟩, .string ⟨#[120]⟩, .string ⟨#[115, 111, 109, 101, 32, 119, 111, 114, 100, 115]⟩, .string ⟨#[0]⟩] t (0, 0))).heap.size (W.alloc (.cells #[.string ⟨#[]⟩, .string ⟨#[120]⟩, .string ⟨#[115, 111, 109, 101, 32, 119, 111, 114, 100, 115]⟩, .string ⟨#[0]⟩] t (0, 0))) w') : w'.cell? ⟨W.heap.size, k, none⟩ = some (.string (Lg.four k)) := by
 refine (hb.cell (p := ⟨W.heap.size, k, none⟩) (by simp)).trans ((blk_cell (blk_new W _) k).trans ?_)
 have : k = 0 ∨ k = 1 ∨ k = 2 ∨ k = 3 := by omega
 rcases this with rfl | rfl | rfl | rfl <;> rfl
def Lg.fin (l : List Int) : List Int := Lg.row l (min l.length 4)
theorem Lg.store4 (W : World) (g : Nat) (c0 c1 c2 c3 v0 v1 v2 v3 : Value) (h : W.heap[g]? = some (.cells #[c0, c1, c2, c3] 29 (0, 0))) :
  ((((W.setCell ⟨g, 0, none⟩ v0).setCell ⟨g, 1, none⟩ v1).setCell ⟨g, 2, none⟩ v2).setCell ⟨g, 3, none⟩ v3).heap[g]? = some (.cells #[v0, v1, v2, v3] 29 (0, 0)) := by
 have := blk_set (blk_set (blk_set (blk_set h 0 v0) 1 v1) 2 v2) 3 v3
 simpa using this
def Lg.T6 : Bool × List (List Nat × List Nat) := (true, [([], []), ([0], [0]), ([1], [1]), ([], []), ([3], [3]), ([4], [4]), ([5], [5]), ([], []), ([7], [7]), ([8], [8]), ([], []), ([], []), ([11], [11]), ([12], [12]), ([10, 13], [10, 13]), ([14], [14]), ([2, 6, 9, 15], [2, 6, 9, 15]), ([16, 2, 0, 1, 2, 3, 4, 5, 6, 7, 8, 9, 10, 11, 12, 13, 14, 15, 16], [16])])
theorem Lg.T6_tab : rtab .any (opsOf Try.f11 6) = Lg.T6 := by kernel_rfl

set_option maxHeartbeats 80000000 in
set_option maxRecDepth 100000 in
theorem Lg.calls0 (A0 : Option Addr) (c0 : Nat) (l0 : List Int) (w : World) (hr0 : Kd.C (Kd.int .u8) w A0 l0.length l0) (hc0 : l0.length ≤ c0) (hby : ∀ x ∈ l0, 0 ≤ x ∧ x ≤ 255) (d : Nat → Int) (hdd : ∀ j, (Lg.fin l0).getD j 0 = d j) :
  Calls Try.prog 11 #[.slice A0 l0.length c0] w fun e w' => e = .returned (.agg #[.string (Spn.nm (d 0)), .int .u64 (IntKind.u64.wrap (IntKind.u64.wrap (d 1) + 1)), .int .i64 (wrap64 (d 2)), .string (Lg.four ((d 3).tmod 4).toNat)]) ∧ Below w.heap.size w w' := by
 go_enter Try.func11, Try.ntmps11
 go_wp2
 go_loopg [4] 4 (fun gg s4 wr => ∃ i : Nat, i ≤ l0.length ∧ i ≤ 4 ∧ 4 - i ≤ gg ∧ s4 = .int .i64 i ∧ Aside0 (wr.heap[w.heap.size]? = some (.cells #[.string ⟨#[]⟩, .int .u64 0, .int .i64 0, .string ⟨#[]⟩] 29 (0, 0))) ∧ Aside0 (wr.heap[w.heap.size + 1]? = some (.cells (Spn.cells (Lg.row l0 i)) 60 (0, 0))) ∧ Aside0 (Below w.heap.size w wr))
 case atStart =>
  refine ⟨0, by omega, by omega, by omega, rfl, ⟨?_⟩, ⟨?_⟩, ⟨below_alloc (below_alloc (Below.refl _ w) _) _⟩⟩
  ·exact ((below_alloc (Below.refl _ (w.alloc _)) _).block _ (by simp)).trans (blk_new w _)
  ·have e : Spn.cells (Lg.row l0 0) = #[.int .u8 0, .int .u8 0, .int .u8 0, .int .u8 0] := by simp [Spn.cells, Lg.row, List.replicate]
   rw [e]
   have := blk_new (w.alloc (.cells #[.string ⟨#[]⟩, .int .u64 0, .int .i64 0, .string ⟨#[]⟩] 29 (0, 0))) (.cells #[.int .u8 0, .int .u8 0, .int .u8 0, .int .u8 0] 60 (0, 0))
   simpa using this
 case round =>
  obtain ⟨i, hi1, hi2, hg, rfl, HR, HD, HB⟩ := hrel
  by_cases hlt : i < l0.length ∧ i < 4
  ·obtain ⟨h1, h2⟩ := hlt
   have h1z : decide ((i : Int) < (l0.length : Int)) = true := decide_eq_true (by omega)
   have h2z : decide ((i : Int) < 4) = true := decide_eq_true (by omega)
   have h1i : (i : Int) < (l0.length : Int) := by omega
   have h2i : (i : Int) < 4 := by omega
   have h0i : (0 : Int) ≤ (i : Int) := by omega
   obtain ⟨ad, e0, hx0⟩ := Kd.at_int hr0 (i : Int) h0i h1i
   cases e0
   replace hx0 := (HB.out.cell (World.block_lt_of_cell? w _ hx0)).trans hx0
   simp only [Int.toNat_natCast] at hx0
   have hold := (blk_cell HD.out i).trans (Spn.cells_get _ i (by rw [Lg.row_length l0 i hi1 hi2]; exact h2))
   have hfr := blk_frozen HD.out i
   have hset := blk_set HD.out i (.int .u8 (rd l0 (i : Int)))
   rw [Spn.cells_set, Lg.row_set l0 i h1 h2] at hset
   have hoth := blk_far HR.out (p := ⟨w.heap.size + 1, i, none⟩) (by simp) (.int .u8 (rd l0 (i : Int)))
   have hBs := below_set (j := i) (v := .int .u8 (rd l0 (i : Int))) HB.out (g := w.heap.size + 1) (by omega)
   clear hr0
   generalize rd l0 (i : Int) = y at *
   go_wp2
   go_roundg (4 - (i + 1))
   case measure => omega
   case rel => exact ⟨i + 1, by omega, by omega, by omega, by go_num, ⟨hoth⟩, ⟨hset⟩, ⟨hBs⟩⟩
  ·skip
   have hfin : Lg.row l0 i = Lg.fin l0 := by
    rw [Lg.fin, show min l0.length 4 = i from by omega]
   rw [hfin] at HD
   have hlen : (Lg.fin l0).length = 4 := Lg.row_length _ _ (by omega) (by omega)
   have hbs : ∀ x ∈ Lg.fin l0, 0 ≤ x ∧ x ≤ 255 := Lg.row_bytes l0 (min l0.length 4) hby
   have hd : ∀ j, j < 4 → 0 ≤ (Lg.fin l0).getD j 0 ∧ (Lg.fin l0).getD j 0 ≤ 255 := fun j hj => Spn.getD_byte _ hbs j (by rw [hlen]; exact hj)
   have hcell : ∀ (j : Nat), j < 4 → ∀ w', Below wr.heap.size wr w' → w'.cell? ⟨w.heap.size + 1, j, none⟩ = some (.int .u8 ((Lg.fin l0).getD j 0)) := fun j hj w' hb => (hb.cell (blk_lt HD.out)).trans ((blk_cell HD.out j).trans (Spn.cells_get _ j (by rw [hlen]; exact hj)))
   have hnm := fun j hj => Spn.nm_eq _ (hd j hj)
   replace hd : ∀ j, j < 4 → 0 ≤ d j ∧ d j ≤ 255 := fun j hj => by rw [← hdd j]; exact hd j hj
   replace hcell : ∀ (j : Nat), j < 4 → ∀ w', Below wr.heap.size wr w' → w'.cell? ⟨w.heap.size + 1, j, none⟩ = some (.int .u8 (d j)) := fun j hj => by rw [← hdd j]; exact hcell j hj
   replace hnm : ∀ j, j < 4 → telemeterlaw03_Name.f (d j) = some (Spn.nm (d j)) := fun j hj => by rw [← hdd j]; exact hnm j hj
   clear hdd
   have hc0 := hcell 0 (by omega)
   have hc1 := hcell 1 (by omega)
   have hc2 := hcell 2 (by omega)
   have hc3 := hcell 3 (by omega)
   clear hcell
   have hd3 := hd 3 (by omega)
   obtain ⟨k3, hk3, hk4⟩ : ∃ k : Nat, Int.tmod (d 3) 4 = (k : Int) ∧ k < 4 := by
    have : Int.tmod (d 3) 4 = d 3 % 4 := Int.tmod_eq_emod_of_nonneg hd3.1
    exact ⟨(Int.tmod (d 3) 4).toNat, by omega, by omega⟩
   have hm0 : 0 ≤ Int.tmod (d 3) 4 := by omega
   have hm4 : Int.tmod (d 3) 4 < 4 := by omega
   have hmk : (Int.tmod (d 3) 4).toNat = k3 := by omega
   have hk4i : (k3 : Int) < 4 := by omega
   skip
   go_wp2
   all_goals (
    skip
    refine start_ (n := 18) (S := fun w' => Below wr.heap.size wr w') (ds := [17]) #[false, false, false, false, false, false, false, false, false, false, false, false, false, false, false, false, false, false] (by kernel_rfl) rfl rfl (below_drew (Below.refl _ wr)) (fun hHeld => ?_)
    refine with_tab Lg.T6_tab (fun HT_ => ?_)
    generalize wr.drew = w2 at hHeld ⊢
    refine pure_ (i := 0) (N := (some 21)) (v := ?_) (a' := ?_) #[true, false, false, false, false, false, false, false, false, false, false, false, false, false, false, false, false, false] rfl rfl (any_of HT_.out (by kernel_rfl)) (fun _ _ _ h => h) (Or.inl ⟨by rfl, ?_⟩) ?_ ?_
    rotate_left
    ·intro w'
     go_simp
     with_reducible rfl
    rotate_left
    ·simp only [ps_]
     rfl
    refine take_ (i := 1) (N := (some 22)) (v := ?_) (a' := ?_) #[true, true, false, false, false, false, false, false, false, false, false, false, false, false, false, false, false, false] rfl rfl (take_of HT_.out (by kernel_rfl)) (fun _ _ _ h => h) (Or.inl ⟨by rfl, ?_⟩) hHeld ?_ ?_
    rotate_left
    ·rintro w' hS_
     have hx_ := hc0 w' hS_
     go_simp
     with_reducible rfl
    rotate_left
    ·simp only [ps_]
     rfl
    refine pure_ (i := 3) (N := (some 24)) (v := ?_) (a' := ?_) #[true, true, false, true, false, false, false, false, false, false, false, false, false, false, false, false, false, false] rfl rfl (any_of HT_.out (by kernel_rfl)) (fun _ _ _ h => h) (Or.inl ⟨by rfl, ?_⟩) ?_ ?_
    rotate_left
    ·intro w'
     go_simp
     with_reducible rfl
    rotate_left
    ·simp only [ps_]
     rfl
    refine take_ (i := 4) (N := (some 25)) (v := ?_) (a' := ?_) #[true, true, false, true, true, false, false, false, false, false, false, false, false, false, false, false, false, false] rfl rfl (take_of HT_.out (by kernel_rfl)) (fun _ _ _ h => h) (Or.inl ⟨by rfl, ?_⟩) hHeld ?_ ?_
    rotate_left
    ·rintro w' hS_
     have hx_ := hc1 w' hS_
     go_simp
     with_reducible rfl
    rotate_left
    ·simp only [ps_]
     rfl
    refine pure_ (i := 5) (N := (some 26)) (v := ?_) (a' := ?_) #[true, true, false, true, true, true, false, false, false, false, false, false, false, false, false, false, false, false] rfl rfl (any_of HT_.out (by kernel_rfl)) (fun _ _ _ h => h) (Or.inl ⟨by rfl, ?_⟩) ?_ ?_
    rotate_left
    ·intro w'
     go_simp
     with_reducible rfl
    rotate_left
    ·simp only [ps_]
     rfl
    refine pure_ (i := 6) (N := (some 27)) (v := ?_) (a' := ?_) #[true, true, false, true, true, true, true, false, false, false, false, false, false, false, false, false, false, false] rfl rfl (any_of HT_.out (by kernel_rfl)) (fun _ _ _ h => h) (Or.inl ⟨by rfl, ?_⟩) ?_ ?_
    rotate_left
    ·intro w'
     go_simp
     with_reducible rfl
    rotate_left
    ·simp only [ps_]
     rfl
    refine pure_ (i := 7) (N := (some 28)) (v := ?_) (a' := ?_) #[true, true, false, true, true, true, true, true, false, false, false, false, false, false, false, false, false, false] rfl rfl (any_of HT_.out (by kernel_rfl)) (fun _ _ _ h => h) (Or.inl ⟨by rfl, ?_⟩) ?_ ?_
    rotate_left
    ·intro w'
     go_simp
     with_reducible rfl
    rotate_left
    ·simp only [ps_]
     rfl
    refine take_ (i := 8) (N := (some 29)) (v := ?_) (a' := ?_) #[true, true, false, true, true, true, true, true, true, false, false, false, false, false, false, false, false, false] rfl rfl (take_of HT_.out (by kernel_rfl)) (fun _ _ _ h => h) (Or.inl ⟨by rfl, ?_⟩) hHeld ?_ ?_
    rotate_left
    ·rintro w' hS_
     have hx_ := hc2 w' hS_
     go_simp
     with_reducible rfl
    rotate_left
    ·simp only [ps_]
     rfl
    refine pure_ (i := 9) (N := (some 30)) (v := ?_) (a' := ?_) #[true, true, false, true, true, true, true, true, true, true, false, false, false, false, false, false, false, false] rfl rfl (any_of HT_.out (by kernel_rfl)) (fun _ _ _ h => h) (Or.inl ⟨by rfl, ?_⟩) ?_ ?_
    rotate_left
    ·intro w'
     go_simp
     with_reducible rfl
    rotate_left
    ·simp only [ps_]
     rfl
    refine pure_ (i := 11) (N := (some 32)) (v := ?_) (a' := ?_) #[true, true, false, true, true, true, true, true, true, true, false, true, false, false, false, false, false, false] rfl rfl (any_of HT_.out (by kernel_rfl)) (fun _ _ _ h => h) (Or.inl ⟨by rfl, ?_⟩) ?_ ?_
    rotate_left
    ·intro w'
     go_simp
     with_reducible rfl
    rotate_left
    ·simp only [ps_]
     rfl
    refine take_ (i := 12) (N := (some 33)) (v := ?_) (a' := ?_) #[true, true, false, true, true, true, true, true, true, true, false, true, true, false, false, false, false, false] rfl rfl (take_of HT_.out (by kernel_rfl)) (fun _ _ _ h => h) (Or.inl ⟨by rfl, ?_⟩) hHeld ?_ ?_
    rotate_left
    ·rintro w' hS_
     have hx_ := hc3 w' hS_
     go_simp
     with_reducible rfl
    rotate_left
    ·simp only [ps_]
     rfl
    refine pure_ (i := 13) (N := (some 34)) (v := ?_) (a' := ?_) #[true, true, false, true, true, true, true, true, true, true, false, true, true, true, false, false, false, false] rfl rfl (any_of HT_.out (by kernel_rfl)) (fun _ _ _ h => h) (Or.inl ⟨by rfl, ?_⟩) ?_ ?_
    rotate_left
    ·intro w'
     go_simp
     with_reducible rfl
    rotate_left
    ·simp only [ps_]
     rfl
    refine join_ (σ := Nat) 2 #[true, true, true, true, true, true, true, true, true, true, true, true, true, true, true, true, false, false] (fun g2 => [(23, .string (Spn.nm (d 0))), (31, .slice (some ⟨g2, 0, none⟩) 4 4), (35, .pointer (some ⟨g2, k3, none⟩)), (36, .string (Lg.four k3))]) (fun _ w' => Below wr.heap.size wr w') ?_ ?_
    rotate_left
    ·intro hCont
     refine two_ (i := 2) (j := 10) (Ni := some 23) (Nj := some 31) #[true, true, true, true, true, true, true, true, true, true, false, true, true, true, false, false, false, false] #[true, true, false, true, true, true, true, true, true, true, true, true, true, true, false, false, false, false] rfl rfl rfl rfl (two_of HT_.out (by kernel_rfl)) (by decide) (by decide) (fun K hK => ?_) (fun K hK => ?_)
     ·skip
      refine goes_ Try.func22 (by kernel_rfl) rfl #[.int .u8 (d 0)] (by rfl) rfl rfl (by (try simp only [List.map_toArray, List.map_cons, List.map_nil]); first | done | rfl) ?_
      refine (Spn.Name_calls _ _ _ (hnm 0 (by omega))).mono ?_
      rintro e w3 ⟨rfl, ⟨n3, hw3⟩⟩
      refine ⟨_, rfl, ?_⟩
      have hb3 := pw_below_drewN (Below.refl (World.heap w2).size w2) n3
      rw [← hw3] at hb3
      clear hw3
      refine hK.out _ _ (below_step hHeld hb3) (fun hHeld => ?_)
      clear hK K
      refine norm_ (a' := ?_) ?_ ?_
      rotate_left
      ·show Act.put _ (some 23) _ = _
       simp only [ps_]
       rfl
      refine one_ (i := 10) (N := (some 31)) #[true, true, true, true, true, true, true, true, true, true, true, true, true, true, false, false, false, false] rfl rfl (one_of HT_.out (by kernel_rfl)) (by decide) (fun K hK => ?_)
      refine value_ (w1 := ?_) (v := ?_) (by rfl) rfl ?_ ?_
      rotate_left 2
      ·go_simp
       constructor
       ·rfl
       ·rfl
      refine hK.out _ _ (below_alloc hHeld _) (fun hHeld => ?_)
      clear hK K
      refine norm_ (a' := ?_) ?_ ?_
      rotate_left
      ·show Act.put _ (some 31) _ = _
       simp only [ps_]
       rfl
      refine pure_ (i := 14) (N := (some 35)) (v := ?_) (a' := ?_) #[true, true, true, true, true, true, true, true, true, true, true, true, true, true, true, false, false, false] rfl rfl (any_of HT_.out (by kernel_rfl)) (fun _ _ _ h => h) (Or.inl ⟨by rfl, ?_⟩) ?_ ?_
      rotate_left
      ·intro w'
       go_simp
       with_reducible rfl
      rotate_left
      ·simp only [ps_]
       rfl
      refine one_ (i := 15) (N := (some 36)) #[true, true, true, true, true, true, true, true, true, true, true, true, true, true, true, true, false, false] rfl rfl (one_of HT_.out (by kernel_rfl)) (by decide) (fun K hK => ?_)
      have hx_ := Lg.of_four w3 9 k3 hk4 _ (Below.refl _ _)
      refine value_ (w1 := ?_) (v := ?_) (by rfl) rfl ?_ ?_
      rotate_left 2
      ·go_simp
       constructor
       ·rfl
       ·rfl
      refine hK.out _ _ hHeld (fun hHeld => ?_)
      clear hK K hx_
      refine norm_ (a' := ?_) ?_ ?_
      rotate_left
      ·show Act.put _ (some 36) _ = _
       simp only [ps_]
       rfl
      exact norm_ (by simp only [putAll, Act.put, List.setIfInBounds_toArray, List.set_cons_zero, List.set_cons_succ]) (hCont w3.heap.size _ hHeld)
     ·skip
      refine value_ (w1 := ?_) (v := ?_) (by rfl) rfl ?_ ?_
      rotate_left 2
      ·go_simp
       constructor
       ·rfl
       ·rfl
      refine hK.out _ _ (below_alloc hHeld _) (fun hHeld => ?_)
      clear hK K
      refine norm_ (a' := ?_) ?_ ?_
      rotate_left
      ·show Act.put _ (some 31) _ = _
       simp only [ps_]
       rfl
      refine pure_ (i := 14) (N := (some 35)) (v := ?_) (a' := ?_) #[true, true, false, true, true, true, true, true, true, true, true, true, true, true, true, false, false, false] rfl rfl (any_of HT_.out (by kernel_rfl)) (fun _ _ _ h => h) (Or.inl ⟨by rfl, ?_⟩) ?_ ?_
      rotate_left
      ·intro w'
       go_simp
       with_reducible rfl
      rotate_left
      ·simp only [ps_]
       rfl
      refine two_ (i := 2) (j := 15) (Ni := some 23) (Nj := some 36) #[true, true, true, true, true, true, true, true, true, true, true, true, true, true, true, false, false, false] #[true, true, false, true, true, true, true, true, true, true, true, true, true, true, true, true, false, false] rfl rfl rfl rfl (two_of HT_.out (by kernel_rfl)) (by decide) (by decide) (fun K hK => ?_) (fun K hK => ?_)
      ·skip
       refine goes_ Try.func22 (by kernel_rfl) rfl #[.int .u8 (d 0)] (by rfl) rfl rfl (by (try simp only [List.map_toArray, List.map_cons, List.map_nil]); first | done | rfl) ?_
       refine (Spn.Name_calls _ _ _ (hnm 0 (by omega))).mono ?_
       rintro e w3 ⟨rfl, ⟨n3, hw3⟩⟩
       refine ⟨_, rfl, ?_⟩
       have hb3 := pw_below_drewN (Below.refl (World.heap (w2.alloc (.cells #[.string ⟨#[]⟩, .string ⟨#[120]⟩, .string ⟨#[115, 111, 109, 101, 32, 119, 111, 114, 100, 115]⟩, .string ⟨#[0]⟩] 9 (0, 0)))).size (w2.alloc (.cells #[.string ⟨#[]⟩, .string ⟨#[120]⟩, .string ⟨#[115, 111, 109, 101, 32, 119, 111, 114, 100, 115]⟩, .string ⟨#[0]⟩] 9 (0, 0)))) n3
       rw [← hw3] at hb3
       clear hw3
       refine hK.out _ _ (below_step hHeld hb3) (fun hHeld => ?_)
       clear hK K
       refine norm_ (a' := ?_) ?_ ?_
       rotate_left
       ·show Act.put _ (some 23) _ = _
        simp only [ps_]
        rfl
       refine one_ (i := 15) (N := (some 36)) #[true, true, true, true, true, true, true, true, true, true, true, true, true, true, true, true, false, false] rfl rfl (one_of HT_.out (by kernel_rfl)) (by decide) (fun K hK => ?_)
       have hx_ := Lg.of_four w2 9 k3 hk4 _ hb3
       refine value_ (w1 := ?_) (v := ?_) (by rfl) rfl ?_ ?_
       rotate_left 2
       ·go_simp
        constructor
        ·rfl
        ·rfl
       refine hK.out _ _ hHeld (fun hHeld => ?_)
       clear hK K hx_
       refine norm_ (a' := ?_) ?_ ?_
       rotate_left
       ·show Act.put _ (some 36) _ = _
        simp only [ps_]
        rfl
       exact norm_ (by simp only [putAll, Act.put, List.setIfInBounds_toArray, List.set_cons_zero, List.set_cons_succ]) (hCont w2.heap.size _ hHeld)
      ·skip
       have hx_ := Lg.of_four w2 9 k3 hk4 _ (Below.refl _ _)
       refine value_ (w1 := ?_) (v := ?_) (by rfl) rfl ?_ ?_
       rotate_left 2
       ·go_simp
        constructor
        ·rfl
        ·rfl
       refine hK.out _ _ hHeld (fun hHeld => ?_)
       clear hK K hx_
       refine norm_ (a' := ?_) ?_ ?_
       rotate_left
       ·show Act.put _ (some 36) _ = _
        simp only [ps_]
        rfl
       refine one_ (i := 2) (N := (some 23)) #[true, true, true, true, true, true, true, true, true, true, true, true, true, true, true, true, false, false] rfl rfl (one_of HT_.out (by kernel_rfl)) (by decide) (fun K hK => ?_)
       refine goes_ Try.func22 (by kernel_rfl) rfl #[.int .u8 (d 0)] (by rfl) rfl rfl (by (try simp only [List.map_toArray, List.map_cons, List.map_nil]); first | done | rfl) ?_
       refine (Spn.Name_calls _ _ _ (hnm 0 (by omega))).mono ?_
       rintro e w3 ⟨rfl, ⟨n3, hw3⟩⟩
       refine ⟨_, rfl, ?_⟩
       have hb3 := pw_below_drewN (Below.refl (World.heap (w2.alloc (.cells #[.string ⟨#[]⟩, .string ⟨#[120]⟩, .string ⟨#[115, 111, 109, 101, 32, 119, 111, 114, 100, 115]⟩, .string ⟨#[0]⟩] 9 (0, 0)))).size (w2.alloc (.cells #[.string ⟨#[]⟩, .string ⟨#[120]⟩, .string ⟨#[115, 111, 109, 101, 32, 119, 111, 114, 100, 115]⟩, .string ⟨#[0]⟩] 9 (0, 0)))) n3
       rw [← hw3] at hb3
       clear hw3
       refine hK.out _ _ (below_step hHeld hb3) (fun hHeld => ?_)
       clear hK K
       refine norm_ (a' := ?_) ?_ ?_
       rotate_left
       ·show Act.put _ (some 23) _ = _
        simp only [ps_]
        rfl
       exact norm_ (by simp only [putAll, Act.put, List.setIfInBounds_toArray, List.set_cons_zero, List.set_cons_succ]) (hCont w2.heap.size _ hHeld)
    clear hHeld
    rintro g2 w5 hHeld
    refine norm_ (a' := ?_) ?_ ?_
    rotate_left
    ·simp only [putAll, Act.put, List.setIfInBounds_toArray, List.set_cons_zero, List.set_cons_succ]
     rfl
    refine pure_ (i := 16) (N := (some 37)) (v := ?_) (a' := ?_) #[true, true, true, true, true, true, true, true, true, true, true, true, true, true, true, true, true, false] rfl rfl (any_of HT_.out (by kernel_rfl)) (fun _ _ _ h => h) (Or.inl ⟨by rfl, ?_⟩) ?_ ?_
    rotate_left
    ·intro w'
     go_simp
     with_reducible rfl
    rotate_left
    ·simp only [ps_]
     rfl
    have HR5 := (hHeld.block _ (blk_lt HR.out)).trans HR.out
    have z0 : w5.cell? ⟨w.heap.size, 0, none⟩ = some (.string ⟨#[]⟩) := (blk_cell HR5 0).trans rfl
    have f0 := blk_frozen HR5 0
    have z1 : w5.cell? ⟨w.heap.size, 1, none⟩ = some (.int .u64 0) := (blk_cell HR5 1).trans rfl
    have f1 := blk_frozen HR5 1
    have z2 : w5.cell? ⟨w.heap.size, 2, none⟩ = some (.int .i64 0) := (blk_cell HR5 2).trans rfl
    have f2 := blk_frozen HR5 2
    have z3 : w5.cell? ⟨w.heap.size, 3, none⟩ = some (.string ⟨#[]⟩) := (blk_cell HR5 3).trans rfl
    have f3 := blk_frozen HR5 3
    refine last_ (i := 17) (N := none) #[true, true, true, true, true, true, true, true, true, true, true, true, true, true, true, true, true, true] rfl rfl (one_of HT_.out (by kernel_rfl)) (by decide) (fun K hK => ?_)
    refine skip_ (w1 := ?_) (by rfl) rfl ?_ ?_
    rotate_left
    ·go_simp
     rfl
    refine hK.out _ _ (done_ (done_of HT_.out (by kernel_rfl)) ?_)
    clear hK K HT_
    have HR6 := Lg.store4 w5 w.heap.size _ _ _ _ (.string (Spn.nm (d 0))) (.int .u64 (IntKind.u64.wrap (IntKind.u64.wrap (d 1) + 1))) (.int .i64 (wrap64 (d 2))) (.string (Lg.four k3)) HR5
    have HB6 := below_set (j := 3) (v := .string (Lg.four k3)) (below_set (j := 2) (v := .int .i64 (wrap64 (d 2))) (below_set (j := 1) (v := .int .u64 (IntKind.u64.wrap (IntKind.u64.wrap (d 1) + 1))) (below_set (j := 0) (v := .string (Spn.nm (d 0))) (below_step HB.out hHeld) (Nat.le_refl _)) (Nat.le_refl _)) (Nat.le_refl _)) (Nat.le_refl _)
    generalize ((((w5.setCell ⟨w.heap.size, 0, none⟩ (.string (Spn.nm (d 0)))).setCell ⟨w.heap.size, 1, none⟩ (.int .u64 (IntKind.u64.wrap (IntKind.u64.wrap (d 1) + 1)))).setCell ⟨w.heap.size, 2, none⟩ (.int .i64 (wrap64 (d 2)))).setCell ⟨w.heap.size, 3, none⟩ (.string (Lg.four k3))) = W6 at HR6 HB6 ⊢
    clear z0 z1 z2 z3 f0 f1 f2 f3 HR5 hHeld
    have y0 : W6.cell? ⟨w.heap.size, 0, none⟩ = some (.string (Spn.nm (d 0))) := (blk_cell HR6 0).trans rfl
    have y1 : W6.cell? ⟨w.heap.size, 1, none⟩ = some (.int .u64 (IntKind.u64.wrap (IntKind.u64.wrap (d 1) + 1))) := (blk_cell HR6 1).trans rfl
    have y2 : W6.cell? ⟨w.heap.size, 2, none⟩ = some (.int .i64 (wrap64 (d 2))) := (blk_cell HR6 2).trans rfl
    have y3 : W6.cell? ⟨w.heap.size, 3, none⟩ = some (.string (Lg.four k3)) := (blk_cell HR6 3).trans rfl
    go_wp2
    have hres : Try.f11.results = #[.cell 2 29] := by kernel_rfl
    refine bodyPost_ret (v := .agg #[.string (Spn.nm (d 0)), .int .u64 (IntKind.u64.wrap (IntKind.u64.wrap (d 1) + 1)), .int .i64 (wrap64 (d 2)), .string (Lg.four k3)]) ?_ rfl ⟨by rw [hmk], HB6⟩
    simp only [results, hres]
    go_simp
   )
def Lg.at (l : List Int) (j : Nat) : Int := (Lg.fin l).getD j 0
def telemeterlaw03_Log.f (l : List Int) : Option (ByteArray × Int × Int × ByteArray) :=
 if (l.all fun x => decide (0 ≤ x ∧ x ≤ 255)) = true then some (Spn.nm (Lg.at l 0), IntKind.u64.wrap (IntKind.u64.wrap (Lg.at l 1) + 1), wrap64 (Lg.at l 2), Lg.four ((Lg.at l 3).tmod 4).toNat) else none
theorem Itm.Log_calls' (A0 : Option Addr) (c0 : Nat) (l0 : List Int) (r1 : ByteArray) (r2 : Int) (r3 : Int) (r4 : ByteArray) (w : World) (hr0 : Kd.C (Kd.int .u8) w A0 l0.length l0) (hc0 : l0.length ≤ c0) (h : telemeterlaw03_Log.f l0 = some (r1, r2, r3, r4)) :
  Calls Try.prog 11 #[.slice A0 l0.length c0] w fun e w' => e = .returned (.agg #[.string r1, .int .u64 r2, .int .i64 r3, .string r4]) ∧ Below w.heap.size w w' := by
 unfold telemeterlaw03_Log.f at h
 have hb : (l0.all fun x => decide (0 ≤ x ∧ x ≤ 255)) = true := by
  by_cases hb : (l0.all fun x => decide (0 ≤ x ∧ x ≤ 255)) = true
  ·exact hb
  ·rw [if_neg hb] at h; cases h
 rw [if_pos hb] at h
 have hby : ∀ x ∈ l0, 0 ≤ x ∧ x ≤ 255 := fun x hx => of_decide_eq_true (List.all_eq_true.1 hb x hx)
 have h2 := Option.some.inj h
 simp only [Prod.mk.injEq] at h2
 obtain ⟨rfl, rfl, rfl, rfl⟩ := h2
 exact Lg.calls0 A0 c0 l0 w hr0 hc0 hby (Lg.at l0) (fun _ => rfl)
end Go.Proofs.Ytfapckmobeppnaa.Px
