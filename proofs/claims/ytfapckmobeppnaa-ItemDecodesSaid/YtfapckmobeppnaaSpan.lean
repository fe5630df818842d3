/- telemeterlaw03.Span: a span as choices say: its walk. -/
import Derived.Test.YtfapckmobeppnaaPx0
import Derived.Test.YtfapckmobeppnaaName
import Derived.WalkKit
import Derived.WalkSpells
import Derived.Lib.SliceRun
import Derived.Laws.Tables
namespace Go.Proofs.Ytfapckmobeppnaa.Px
open Go.RowKit Go.Proofs.YtfapckmobeppnaaW.PrintWords Go.Proofs.YtfapckmobeppnaaW.PrintLast Go.Proofs.YtfapckmobeppnaaW.PrintMore
set_option linter.unusedVariables false
set_option linter.unusedSimpArgs false

/-- The twelve choices: those that are given, then 0. -/
def Spn.row (l : List Int) (i : Nat) : List Int := (l.take i) ++ List.replicate (12 - i) 0
def Spn.cells (x : List Int) : Array Value := (x.map fun v => Value.int .u8 v).toArray
theorem Spn.row_length (l : List Int) (i : Nat) (h : i ≤ l.length) (h2 : i ≤ 12) : (Spn.row l i).length = 12 := by
 rw [Spn.row, List.length_append, List.length_take, List.length_replicate]; omega
theorem Spn.row_set (l : List Int) (i : Nat) (h : i < l.length) (h2 : i < 12) : (Spn.row l i).set i (rd l (i : Int)) = Spn.row l (i + 1) := by
 unfold Spn.row
 rw [List.set_append, if_neg (by rw [List.length_take]; omega), List.length_take, Nat.min_eq_left (by omega), Nat.sub_self]
 obtain ⟨m, hm⟩ : ∃ m, 12 - i = m + 1 := ⟨11 - i, by omega⟩
 have e1 : rd l (i : Int) = l[i] := by simp [rd, List.getD_eq_getElem?_getD, List.getElem?_eq_getElem h]
 have e2 : l.take (i + 1) = l.take i ++ [l[i]] := by rw [List.take_add_one, List.getElem?_eq_getElem h]; rfl
 rw [hm, List.replicate_succ, List.set_cons_zero, show 12 - (i + 1) = m from by omega, e1, e2, List.append_assoc]
 rfl
theorem Spn.cells_set (x : List Int) (i : Nat) (v : Int) : (Spn.cells x).setIfInBounds i (.int .u8 v) = Spn.cells (x.set i v) := by
 simp [Spn.cells, List.map_set]
theorem Spn.cells_get (x : List Int) (i : Nat) (h : i < x.length) : (Spn.cells x)[i]? = some (.int .u8 (x.getD i 0)) := by
 simp [Spn.cells, List.getD_eq_getElem?_getD, List.getElem?_eq_getElem h]
theorem Spn.row_bytes (l : List Int) (i : Nat) (h : ∀ x ∈ l, 0 ≤ x ∧ x ≤ 255) : ∀ x ∈ Spn.row l i, 0 ≤ x ∧ x ≤ 255 := by
 intro x hx
 rcases List.mem_append.1 hx with hx | hx
 ·exact h x (List.mem_of_mem_take hx)
 ·rw [(List.mem_replicate.1 hx).2]; omega
theorem Spn.getD_byte (x : List Int) (h : ∀ v ∈ x, 0 ≤ v ∧ v ≤ 255) (i : Nat) (hi : i < x.length) : 0 ≤ x.getD i 0 ∧ x.getD i 0 ≤ 255 := by
 rw [List.getD_eq_getElem?_getD, List.getElem?_eq_getElem hi]
 exact h _ (List.getElem_mem hi)

/-- What the walk keeps: the result's block, the choices' block, the span's block. -/
structure Spn.St (w : World) (D : Array Value) (g : Nat) (cs : Array Value) (W : World) : Prop where
 hB : Below w.heap.size w W
 hR : W.heap[w.heap.size]? = some (.cells #[.int .u64 0, .int .u64 0, .int .u64 0, .int .u64 0, .string ⟨#[]⟩, .int .i64 0, .int .i64 0, .bool false, .slice none 0 0, .int .u64 0] 26 (0, 0))
 hD : W.heap[w.heap.size + 1]? = some (.cells D 56 (0, 0))
 hS : W.heap[g]? = some (.cells cs 26 (0, 0))
 h0 : w.heap.size ≤ g
 h1 : g ≠ w.heap.size
 h2 : g ≠ w.heap.size + 1
theorem Spn.St.below {w W W' : World} {D cs : Array Value} {g : Nat} (h : Spn.St w D g cs W) (hb : Below W.heap.size W W') : Spn.St w D g cs W' :=
 ⟨below_step h.hB hb, (hb.block _ (blk_lt h.hR)).trans h.hR, (hb.block _ (blk_lt h.hD)).trans h.hD, (hb.block _ (blk_lt h.hS)).trans h.hS, h.h0, h.h1, h.h2⟩
theorem Spn.St.set {w W : World} {D cs : Array Value} {g : Nat} (h : Spn.St w D g cs W) (i : Nat) (u : Value) : Spn.St w D g (cs.setIfInBounds i u) (W.setCell ⟨g, i, none⟩ u) :=
 ⟨below_set h.hB h.h0, blk_far h.hR (p := ⟨g, i, none⟩) (Ne.symm h.h1) u, blk_far h.hD (p := ⟨g, i, none⟩) (Ne.symm h.h2) u, blk_set h.hS i u, h.h0, h.h1, h.h2⟩
theorem Spn.St.grown {w W W' : World} {D cs : Array Value} {g : Nat} (h : Spn.St w D g cs W) {row : Option Nat} (hg : W.grownBy W' row) (hB : Below w.heap.size w W') (r0 : row ≠ some w.heap.size) (r1 : row ≠ some (w.heap.size + 1)) (r2 : row ≠ some g) : Spn.St w D g cs W' :=
 ⟨hB, blk_grown h.hR hg (Ne.symm r0), blk_grown h.hD hg (Ne.symm r1), blk_grown h.hS hg (Ne.symm r2), h.h0, h.h1, h.h2⟩
/-- Ten cells are written over a fresh span. -/
theorem Spn.store10 (W : World) (g : Nat) (c0 c1 c2 c3 c4 c5 c6 c7 c8 c9 v0 v1 v2 v3 v4 v5 v6 v7 v8 v9 : Value) (h : W.heap[g]? = some (.cells #[c0, c1, c2, c3, c4, c5, c6, c7, c8, c9] 26 (0, 0))) :
  ((((((((((W.setCell ⟨g, 0, none⟩ v0).setCell ⟨g, 1, none⟩ v1).setCell ⟨g, 2, none⟩ v2).setCell ⟨g, 3, none⟩ v3).setCell ⟨g, 4, none⟩ v4).setCell ⟨g, 5, none⟩ v5).setCell ⟨g, 6, none⟩ v6).setCell ⟨g, 7, none⟩ v7).setCell ⟨g, 8, none⟩ v8).setCell ⟨g, 9, none⟩ v9).heap[g]? = some (.cells #[v0, v1, v2, v3, v4, v5, v6, v7, v8, v9] 26 (0, 0)) :=
 by
 have := blk_set (blk_set (blk_set (blk_set (blk_set (blk_set (blk_set (blk_set (blk_set (blk_set h 0 v0) 1 v1) 2 v2) 3 v3) 4 v4) 5 v5) 6 v6) 7 v7) 8 v8) 9 v9
 simpa using this
theorem Spn.far10 (W : World) (g k : Nat) (hk : k ≠ g) (v0 v1 v2 v3 v4 v5 v6 v7 v8 v9 : Value) :
  ((((((((((W.setCell ⟨g, 0, none⟩ v0).setCell ⟨g, 1, none⟩ v1).setCell ⟨g, 2, none⟩ v2).setCell ⟨g, 3, none⟩ v3).setCell ⟨g, 4, none⟩ v4).setCell ⟨g, 5, none⟩ v5).setCell ⟨g, 6, none⟩ v6).setCell ⟨g, 7, none⟩ v7).setCell ⟨g, 8, none⟩ v8).setCell ⟨g, 9, none⟩ v9).heap[k]? = W.heap[k]? := by
 repeat rw [heap_setCell_other _ _ _ _ hk]
theorem Spn.below10 (w W : World) (g : Nat) (hB : Below w.heap.size w W) (hg : w.heap.size ≤ g) (v0 v1 v2 v3 v4 v5 v6 v7 v8 v9 : Value) :
  Below w.heap.size w ((((((((((W.setCell ⟨g, 0, none⟩ v0).setCell ⟨g, 1, none⟩ v1).setCell ⟨g, 2, none⟩ v2).setCell ⟨g, 3, none⟩ v3).setCell ⟨g, 4, none⟩ v4).setCell ⟨g, 5, none⟩ v5).setCell ⟨g, 6, none⟩ v6).setCell ⟨g, 7, none⟩ v7).setCell ⟨g, 8, none⟩ v8).setCell ⟨g, 9, none⟩ v9) :=
 below_set (below_set (below_set (below_set (below_set (below_set (below_set (below_set (below_set (below_set hB hg) hg) hg) hg) hg) hg) hg) hg) hg) hg

theorem Spn.nm_size (c : Int) : (Spn.nm c).size ≤ 16 := by
 rw [Spn.nm, ByteArray.size_extract]
 have : (⟨#[115, 118, 99, 45, 97, 47, 98, 46, 99, 95, 100, 126, 33, 71, 69, 84]⟩ : ByteArray).size = 16 := rfl
 omega
theorem Spn.info64 : (Try.prog.info? 36).map (fun i => (i.zero, i.size, i.bytes)) = some (some (.agg #[(.string ⟨#[]⟩), (.string ⟨#[]⟩)]), 2, 32) := by kernel_rfl
theorem Spn.E64 : ∀ q, q ∈ 36 :: k36.E → q ≠ 26 := by
 intro q hq
 have : q = 36 := by simpa [k36, Kd.iso, Kd.pair, Kd.string, Kd.scalar] using hq
 omega
def Spn.v3 (k : Nat) : ByteArray := [(⟨#[]⟩ : ByteArray), ⟨#[118]⟩, ⟨#[0, 32, 255]⟩].getD k ⟨#[]⟩
theorem Spn.three (W : World) (t : TypeId) (k : Nat) (hk : k < 3) (w' : World) (hb : Below (W.alloc (.cells #[.string ⟨#[]⟩, .string ⟨#[118]⟩, .string ⟨#[0, 32, 255]⟩] t (0, 0))).heap.size (W.alloc (.cells #[.string ⟨#[]⟩, .string ⟨#[118]⟩, .string ⟨#[0, 32, 255]⟩] t (0, 0))) w') : w'.cell? ⟨W.heap.size, k, none⟩ = some (.string (Spn.v3 k)) := by
 refine (hb.cell (p := ⟨W.heap.size, k, none⟩) (by simp)).trans ((blk_cell (blk_new W _) k).trans ?_)
 have : k = 0 ∨ k = 1 ∨ k = 2 := by omega
 rcases this with rfl | rfl | rfl <;> rfl
def Spn.attrs (d : Nat → Int) : List S36 :=
 if Int.tmod (d 10) 3 = 0 then [] else if Int.tmod (d 10) 3 = 1 then [⟨⟨#[97]⟩, Spn.nm (d 11)⟩] else [⟨⟨#[97]⟩, Spn.nm (d 11)⟩, ⟨(⟨#[107]⟩ : ByteArray) ++ Spn.nm (d 10), Spn.v3 (Int.tmod (d 11) 3).toNat⟩]
def Spn.rv (d : Nat → Int) : Int := if d 8 > 200 then d 9 * 281474976710656 + 1 else 0
def Spn.Post (d : Nat → Int) (w : World) (e : Ending) (w' : World) : Prop := ∃ v8_ : Value, e = .returned (.agg #[.int .u64 (IntKind.u64.wrap ((d 0).tmod 3)), .int .u64 (IntKind.u64.wrap (IntKind.u64.wrap (IntKind.u64.wrap (IntKind.u64.wrap ((d 1).tmod 4) * 18014398509481984) + IntKind.u64.wrap (d 2)) + 1)), .int .u64 (IntKind.u64.wrap (IntKind.u64.wrap (d 3) + 1)), .int .u64 (IntKind.u64.wrap ((d 4).tmod 3)), .string (Spn.nm (d 5)), .int .i64 (wrap64 (d 6)), .int .i64 (wrap64 (wrap64 (d 6) + wrap64 (d 7))), .bool ((d 8).tmod 3 == 0), v8_, .int .u64 (Spn.rv d)]) ∧ Kd.R k36 36 w' w.heap.size (fun _ => True) v8_ (Spn.attrs d) ∧ Below w.heap.size w w'
def Spn.fin (l : List Int) : List Int := Spn.row l (min l.length 12)
def Spn.T6 : Bool × List (List Nat × List Nat) := (true, [([], []), ([0], [0]), ([1], [1]), ([2], [2]), ([], []), ([4], [4]), ([5], [5]), ([6], [6]), ([7], [7]), ([], []), ([9], [9]), ([10], [10]), ([8, 11], [8, 11]), ([12], [12]), ([], []), ([14], [14]), ([15], [15]), ([16], [16]), ([], []), ([18], [18]), ([19], [19]), ([20], [20]), ([], []), ([22], [22]), ([23], [23]), ([], []), ([25], [25]), ([26], [26]), ([], []), ([28], [28]), ([29], [29]), ([], []), ([31], [31]), ([32], [32]), ([30, 33], [30, 33]), ([], []), ([35], [35]), ([36], [36]), ([37], [37]), ([3, 13, 17, 21, 24, 27, 34, 38], [3, 13, 17, 21, 24, 27, 34, 38]), ([], []), ([40, 39, 24, 0, 1, 2, 3, 4, 5, 6, 7, 8, 9, 10, 11, 12, 13, 14, 15, 16, 17, 18, 19, 20, 21, 22, 23, 24, 25, 26, 27, 28, 29, 30, 31, 32, 33, 34, 35, 36, 37, 38, 39, 40], [39, 40])])
theorem Spn.tab6 : rtab .any (opsOf Try.f10 6) = Spn.T6 := by kernel_rfl
def Spn.T10 : Bool × List (List Nat × List Nat) := (true, [([], []), ([0], [0]), ([], []), ([2], [2]), ([3], [3]), ([4], [4]), ([5], [5]), ([1, 6, 4], [1, 6]), ([0, 1, 2, 3, 4, 5, 6, 7], []), ([8, 7, 7, 0, 1, 2, 3, 4, 5, 6, 7], [7, 8])])
theorem Spn.tab10 : rtab .any (opsOf Try.f10 10) = Spn.T10 := by kernel_rfl
def Spn.T12 : Bool × List (List Nat × List Nat) := (true, [([], []), ([0], [0]), ([], []), ([2], [2]), ([3], [3]), ([4], [4]), ([], []), ([], []), ([7], [7]), ([8], [8]), ([6, 9], [6, 9]), ([10], [10]), ([5, 11], [5, 11]), ([12], [12]), ([1, 13, 4], [1, 13]), ([0, 1, 2, 3, 4, 5, 6, 7, 8, 9, 10, 11, 12, 13, 14], []), ([15, 14, 14, 0, 1, 2, 3, 4, 5, 6, 7, 8, 9, 10, 11, 12, 13, 14], [14, 15])])
theorem Spn.tab12 : rtab .any (opsOf Try.f10 12) = Spn.T12 := by kernel_rfl

set_option maxHeartbeats 80000000 in
set_option maxRecDepth 100000 in
theorem Spn.calls0 (A0 : Option Addr) (c0 : Nat) (l0 : List Int) (w : World) (hr0 : Kd.C (Kd.int .u8) w A0 l0.length l0) (hc0 : l0.length ≤ c0) (hby : ∀ x ∈ l0, 0 ≤ x ∧ x ≤ 255) (d : Nat → Int) (hdd : ∀ j, (Spn.fin l0).getD j 0 = d j) :
  Calls Try.prog 10 #[.slice A0 l0.length c0] w (Spn.Post d w) := by
 go_enter Try.func10, Try.ntmps10
 go_wp2
 go_loopg [4] 12 (fun gg s4 wr => ∃ i : Nat, i ≤ l0.length ∧ i ≤ 12 ∧ 12 - i ≤ gg ∧ s4 = .int .i64 i ∧ Aside0 (wr.heap[w.heap.size]? = some (.cells #[.int .u64 0, .int .u64 0, .int .u64 0, .int .u64 0, .string ⟨#[]⟩, .int .i64 0, .int .i64 0, .bool false, .slice none 0 0, .int .u64 0] 26 (0, 0))) ∧ Aside0 (wr.heap[w.heap.size + 1]? = some (.cells (Spn.cells (Spn.row l0 i)) 56 (0, 0))) ∧ Aside0 (Below w.heap.size w wr))
 case atStart =>
  refine ⟨0, by omega, by omega, by omega, rfl, ⟨?_⟩, ⟨?_⟩, ⟨below_alloc (below_alloc (Below.refl _ w) _) _⟩⟩
  ·exact ((below_alloc (Below.refl _ (w.alloc _)) _).block _ (by simp)).trans (blk_new w _)
  ·have e : Spn.cells (Spn.row l0 0) = #[.int .u8 0, .int .u8 0, .int .u8 0, .int .u8 0, .int .u8 0, .int .u8 0, .int .u8 0, .int .u8 0, .int .u8 0, .int .u8 0, .int .u8 0, .int .u8 0] := by simp [Spn.cells, Spn.row, List.replicate]
   rw [e]
   have := blk_new (w.alloc (.cells #[.int .u64 0, .int .u64 0, .int .u64 0, .int .u64 0, .string ⟨#[]⟩, .int .i64 0, .int .i64 0, .bool false, .slice none 0 0, .int .u64 0] 26 (0, 0))) (.cells #[.int .u8 0, .int .u8 0, .int .u8 0, .int .u8 0, .int .u8 0, .int .u8 0, .int .u8 0, .int .u8 0, .int .u8 0, .int .u8 0, .int .u8 0, .int .u8 0] 56 (0, 0))
   simpa using this
 case round =>
  obtain ⟨i, hi1, hi2, hg, rfl, HR, HD, HB⟩ := hrel
  by_cases hlt : i < l0.length ∧ i < 12
  ·obtain ⟨h1, h2⟩ := hlt
   have h1z : decide ((i : Int) < (l0.length : Int)) = true := decide_eq_true (by omega)
   have h2z : decide ((i : Int) < 12) = true := decide_eq_true (by omega)
   have h1i : (i : Int) < (l0.length : Int) := by omega
   have h2i : (i : Int) < 12 := by omega
   have h0i : (0 : Int) ≤ (i : Int) := by omega
   obtain ⟨ad, e0, hx0⟩ := Kd.at_int hr0 (i : Int) h0i h1i
   cases e0
   replace hx0 := (HB.out.cell (World.block_lt_of_cell? w _ hx0)).trans hx0
   simp only [Int.toNat_natCast] at hx0
   have hold := (blk_cell HD.out i).trans (Spn.cells_get _ i (by rw [Spn.row_length l0 i hi1 hi2]; exact h2))
   have hfr := blk_frozen HD.out i
   have hset := blk_set HD.out i (.int .u8 (rd l0 (i : Int)))
   rw [Spn.cells_set, Spn.row_set l0 i h1 h2] at hset
   have hoth := blk_far HR.out (p := ⟨w.heap.size + 1, i, none⟩) (by simp) (.int .u8 (rd l0 (i : Int)))
   have hBs := below_set (j := i) (v := .int .u8 (rd l0 (i : Int))) HB.out (g := w.heap.size + 1) (by omega)
   clear hr0
   generalize rd l0 (i : Int) = y at *
   go_wp2
   go_roundg (12 - (i + 1))
   case measure => omega
   case rel => exact ⟨i + 1, by omega, by omega, by omega, by go_num, ⟨hoth⟩, ⟨hset⟩, ⟨hBs⟩⟩
  ·skip
   have hfin : Spn.row l0 i = Spn.fin l0 := by
    rw [Spn.fin, show min l0.length 12 = i from by omega]
   rw [hfin] at HD
   have hlen : (Spn.fin l0).length = 12 := Spn.row_length _ _ (by omega) (by omega)
   have hbs : ∀ x ∈ Spn.fin l0, 0 ≤ x ∧ x ≤ 255 := Spn.row_bytes l0 (min l0.length 12) hby
   have hd : ∀ j, j < 12 → 0 ≤ (Spn.fin l0).getD j 0 ∧ (Spn.fin l0).getD j 0 ≤ 255 := fun j hj => Spn.getD_byte _ hbs j (by rw [hlen]; exact hj)
   have hcell : ∀ (j : Nat), j < 12 → ∀ w', Below wr.heap.size wr w' → w'.cell? ⟨w.heap.size + 1, j, none⟩ = some (.int .u8 ((Spn.fin l0).getD j 0)) := fun j hj w' hb => (hb.cell (blk_lt HD.out)).trans ((blk_cell HD.out j).trans (Spn.cells_get _ j (by rw [hlen]; exact hj)))
   have hnm := fun j hj => Spn.nm_eq _ (hd j hj)
   have hDc : ∀ j, j < 12 → (Spn.cells (Spn.fin l0))[j]? = some (.int .u8 ((Spn.fin l0).getD j 0)) := fun j hj => Spn.cells_get _ j (by rw [hlen]; exact hj)
   replace hDc : ∀ j, j < 12 → (Spn.cells (Spn.fin l0))[j]? = some (.int .u8 (d j)) := fun j hj => by rw [← hdd j]; exact hDc j hj
   replace hd : ∀ j, j < 12 → 0 ≤ d j ∧ d j ≤ 255 := fun j hj => by rw [← hdd j]; exact hd j hj
   replace hcell : ∀ (j : Nat), j < 12 → ∀ w', Below wr.heap.size wr w' → w'.cell? ⟨w.heap.size + 1, j, none⟩ = some (.int .u8 (d j)) := fun j hj => by rw [← hdd j]; exact hcell j hj
   replace hnm : ∀ j, j < 12 → telemeterlaw03_Name.f (d j) = some (Spn.nm (d j)) := fun j hj => by rw [← hdd j]; exact hnm j hj
   clear hdd
   have hc0 := hcell 0 (by omega)
   have hc1 := hcell 1 (by omega)
   have hc2 := hcell 2 (by omega)
   have hc3 := hcell 3 (by omega)
   have hc4 := hcell 4 (by omega)
   have hc5 := hcell 5 (by omega)
   have hc6 := hcell 6 (by omega)
   have hc7 := hcell 7 (by omega)
   have hc8 := hcell 8 (by omega)
   have hc9 := hcell 9 (by omega)
   have hc10 := hcell 10 (by omega)
   have hc11 := hcell 11 (by omega)
   clear hcell
   generalize Spn.cells (Spn.fin l0) = D at HD hDc
   go_wp2
   all_goals (
    skip
    refine start_ (n := 42) (S := fun w' => Below wr.heap.size wr w') (ds := [41]) #[false, false, false, false, false, false, false, false, false, false, false, false, false, false, false, false, false, false, false, false, false, false, false, false, false, false, false, false, false, false, false, false, false, false, false, false, false, false, false, false, false, false] (by kernel_rfl) rfl rfl (below_drew (Below.refl _ wr)) (fun hHeld => ?_)
    refine with_tab Spn.tab6 (fun HT_ => ?_)
    generalize wr.drew = w2 at hHeld ⊢
    refine pure_ (i := 0) (N := (some 22)) (v := ?_) (a' := ?_) #[true, false, false, false, false, false, false, false, false, false, false, false, false, false, false, false, false, false, false, false, false, false, false, false, false, false, false, false, false, false, false, false, false, false, false, false, false, false, false, false, false, false] rfl rfl (any_of HT_.out (by kernel_rfl)) (fun _ _ _ h => h) (Or.inl ⟨by rfl, ?_⟩) ?_ ?_
    rotate_left
    ·intro w'
     go_simp
     with_reducible rfl
    rotate_left
    ·simp only [ps_]
     rfl
    refine take_ (i := 1) (N := (some 23)) (v := ?_) (a' := ?_) #[true, true, false, false, false, false, false, false, false, false, false, false, false, false, false, false, false, false, false, false, false, false, false, false, false, false, false, false, false, false, false, false, false, false, false, false, false, false, false, false, false, false] rfl rfl (take_of HT_.out (by kernel_rfl)) (fun _ _ _ h => h) (Or.inl ⟨by rfl, ?_⟩) hHeld ?_ ?_
    rotate_left
    ·intro w' hS_
     have hx_ := hc0 w' hS_
     go_simp
     with_reducible rfl
    rotate_left
    ·simp only [ps_]
     rfl
    refine pure_ (i := 2) (N := (some 24)) (v := ?_) (a' := ?_) #[true, true, true, false, false, false, false, false, false, false, false, false, false, false, false, false, false, false, false, false, false, false, false, false, false, false, false, false, false, false, false, false, false, false, false, false, false, false, false, false, false, false] rfl rfl (any_of HT_.out (by kernel_rfl)) (fun _ _ _ h => h) (Or.inl ⟨by rfl, ?_⟩) ?_ ?_
    rotate_left
    ·intro w'
     go_simp
     with_reducible rfl
    rotate_left
    ·simp only [ps_]
     rfl
    refine pure_ (i := 3) (N := (some 25)) (v := ?_) (a' := ?_) #[true, true, true, true, false, false, false, false, false, false, false, false, false, false, false, false, false, false, false, false, false, false, false, false, false, false, false, false, false, false, false, false, false, false, false, false, false, false, false, false, false, false] rfl rfl (any_of HT_.out (by kernel_rfl)) (fun _ _ _ h => h) (Or.inl ⟨by rfl, ?_⟩) ?_ ?_
    rotate_left
    ·intro w'
     go_simp
     with_reducible rfl
    rotate_left
    ·simp only [ps_]
     rfl
    refine pure_ (i := 4) (N := (some 26)) (v := ?_) (a' := ?_) #[true, true, true, true, true, false, false, false, false, false, false, false, false, false, false, false, false, false, false, false, false, false, false, false, false, false, false, false, false, false, false, false, false, false, false, false, false, false, false, false, false, false] rfl rfl (any_of HT_.out (by kernel_rfl)) (fun _ _ _ h => h) (Or.inl ⟨by rfl, ?_⟩) ?_ ?_
    rotate_left
    ·intro w'
     go_simp
     with_reducible rfl
    rotate_left
    ·simp only [ps_]
     rfl
    refine take_ (i := 5) (N := (some 27)) (v := ?_) (a' := ?_) #[true, true, true, true, true, true, false, false, false, false, false, false, false, false, false, false, false, false, false, false, false, false, false, false, false, false, false, false, false, false, false, false, false, false, false, false, false, false, false, false, false, false] rfl rfl (take_of HT_.out (by kernel_rfl)) (fun _ _ _ h => h) (Or.inl ⟨by rfl, ?_⟩) hHeld ?_ ?_
    rotate_left
    ·intro w' hS_
     have hx_ := hc1 w' hS_
     go_simp
     with_reducible rfl
    rotate_left
    ·simp only [ps_]
     rfl
    refine pure_ (i := 6) (N := (some 28)) (v := ?_) (a' := ?_) #[true, true, true, true, true, true, true, false, false, false, false, false, false, false, false, false, false, false, false, false, false, false, false, false, false, false, false, false, false, false, false, false, false, false, false, false, false, false, false, false, false, false] rfl rfl (any_of HT_.out (by kernel_rfl)) (fun _ _ _ h => h) (Or.inl ⟨by rfl, ?_⟩) ?_ ?_
    rotate_left
    ·intro w'
     go_simp
     with_reducible rfl
    rotate_left
    ·simp only [ps_]
     rfl
    refine pure_ (i := 7) (N := (some 29)) (v := ?_) (a' := ?_) #[true, true, true, true, true, true, true, true, false, false, false, false, false, false, false, false, false, false, false, false, false, false, false, false, false, false, false, false, false, false, false, false, false, false, false, false, false, false, false, false, false, false] rfl rfl (any_of HT_.out (by kernel_rfl)) (fun _ _ _ h => h) (Or.inl ⟨by rfl, ?_⟩) ?_ ?_
    rotate_left
    ·intro w'
     go_simp
     with_reducible rfl
    rotate_left
    ·simp only [ps_]
     rfl
    refine pure_ (i := 8) (N := (some 30)) (v := ?_) (a' := ?_) #[true, true, true, true, true, true, true, true, true, false, false, false, false, false, false, false, false, false, false, false, false, false, false, false, false, false, false, false, false, false, false, false, false, false, false, false, false, false, false, false, false, false] rfl rfl (any_of HT_.out (by kernel_rfl)) (fun _ _ _ h => h) (Or.inl ⟨by rfl, ?_⟩) ?_ ?_
    rotate_left
    ·intro w'
     go_simp
     with_reducible rfl
    rotate_left
    ·simp only [ps_]
     rfl
    refine pure_ (i := 9) (N := (some 31)) (v := ?_) (a' := ?_) #[true, true, true, true, true, true, true, true, true, true, false, false, false, false, false, false, false, false, false, false, false, false, false, false, false, false, false, false, false, false, false, false, false, false, false, false, false, false, false, false, false, false] rfl rfl (any_of HT_.out (by kernel_rfl)) (fun _ _ _ h => h) (Or.inl ⟨by rfl, ?_⟩) ?_ ?_
    rotate_left
    ·intro w'
     go_simp
     with_reducible rfl
    rotate_left
    ·simp only [ps_]
     rfl
    refine take_ (i := 10) (N := (some 32)) (v := ?_) (a' := ?_) #[true, true, true, true, true, true, true, true, true, true, true, false, false, false, false, false, false, false, false, false, false, false, false, false, false, false, false, false, false, false, false, false, false, false, false, false, false, false, false, false, false, false] rfl rfl (take_of HT_.out (by kernel_rfl)) (fun _ _ _ h => h) (Or.inl ⟨by rfl, ?_⟩) hHeld ?_ ?_
    rotate_left
    ·intro w' hS_
     have hx_ := hc2 w' hS_
     go_simp
     with_reducible rfl
    rotate_left
    ·simp only [ps_]
     rfl
    refine pure_ (i := 11) (N := (some 33)) (v := ?_) (a' := ?_) #[true, true, true, true, true, true, true, true, true, true, true, true, false, false, false, false, false, false, false, false, false, false, false, false, false, false, false, false, false, false, false, false, false, false, false, false, false, false, false, false, false, false] rfl rfl (any_of HT_.out (by kernel_rfl)) (fun _ _ _ h => h) (Or.inl ⟨by rfl, ?_⟩) ?_ ?_
    rotate_left
    ·intro w'
     go_simp
     with_reducible rfl
    rotate_left
    ·simp only [ps_]
     rfl
    refine pure_ (i := 12) (N := (some 34)) (v := ?_) (a' := ?_) #[true, true, true, true, true, true, true, true, true, true, true, true, true, false, false, false, false, false, false, false, false, false, false, false, false, false, false, false, false, false, false, false, false, false, false, false, false, false, false, false, false, false] rfl rfl (any_of HT_.out (by kernel_rfl)) (fun _ _ _ h => h) (Or.inl ⟨by rfl, ?_⟩) ?_ ?_
    rotate_left
    ·intro w'
     go_simp
     with_reducible rfl
    rotate_left
    ·simp only [ps_]
     rfl
    refine pure_ (i := 13) (N := (some 35)) (v := ?_) (a' := ?_) #[true, true, true, true, true, true, true, true, true, true, true, true, true, true, false, false, false, false, false, false, false, false, false, false, false, false, false, false, false, false, false, false, false, false, false, false, false, false, false, false, false, false] rfl rfl (any_of HT_.out (by kernel_rfl)) (fun _ _ _ h => h) (Or.inl ⟨by rfl, ?_⟩) ?_ ?_
    rotate_left
    ·intro w'
     go_simp
     with_reducible rfl
    rotate_left
    ·simp only [ps_]
     rfl
    refine pure_ (i := 14) (N := (some 36)) (v := ?_) (a' := ?_) #[true, true, true, true, true, true, true, true, true, true, true, true, true, true, true, false, false, false, false, false, false, false, false, false, false, false, false, false, false, false, false, false, false, false, false, false, false, false, false, false, false, false] rfl rfl (any_of HT_.out (by kernel_rfl)) (fun _ _ _ h => h) (Or.inl ⟨by rfl, ?_⟩) ?_ ?_
    rotate_left
    ·intro w'
     go_simp
     with_reducible rfl
    rotate_left
    ·simp only [ps_]
     rfl
    refine take_ (i := 15) (N := (some 37)) (v := ?_) (a' := ?_) #[true, true, true, true, true, true, true, true, true, true, true, true, true, true, true, true, false, false, false, false, false, false, false, false, false, false, false, false, false, false, false, false, false, false, false, false, false, false, false, false, false, false] rfl rfl (take_of HT_.out (by kernel_rfl)) (fun _ _ _ h => h) (Or.inl ⟨by rfl, ?_⟩) hHeld ?_ ?_
    rotate_left
    ·intro w' hS_
     have hx_ := hc3 w' hS_
     go_simp
     with_reducible rfl
    rotate_left
    ·simp only [ps_]
     rfl
    refine pure_ (i := 16) (N := (some 38)) (v := ?_) (a' := ?_) #[true, true, true, true, true, true, true, true, true, true, true, true, true, true, true, true, true, false, false, false, false, false, false, false, false, false, false, false, false, false, false, false, false, false, false, false, false, false, false, false, false, false] rfl rfl (any_of HT_.out (by kernel_rfl)) (fun _ _ _ h => h) (Or.inl ⟨by rfl, ?_⟩) ?_ ?_
    rotate_left
    ·intro w'
     go_simp
     with_reducible rfl
    rotate_left
    ·simp only [ps_]
     rfl
    refine pure_ (i := 17) (N := (some 39)) (v := ?_) (a' := ?_) #[true, true, true, true, true, true, true, true, true, true, true, true, true, true, true, true, true, true, false, false, false, false, false, false, false, false, false, false, false, false, false, false, false, false, false, false, false, false, false, false, false, false] rfl rfl (any_of HT_.out (by kernel_rfl)) (fun _ _ _ h => h) (Or.inl ⟨by rfl, ?_⟩) ?_ ?_
    rotate_left
    ·intro w'
     go_simp
     with_reducible rfl
    rotate_left
    ·simp only [ps_]
     rfl
    refine pure_ (i := 18) (N := (some 40)) (v := ?_) (a' := ?_) #[true, true, true, true, true, true, true, true, true, true, true, true, true, true, true, true, true, true, true, false, false, false, false, false, false, false, false, false, false, false, false, false, false, false, false, false, false, false, false, false, false, false] rfl rfl (any_of HT_.out (by kernel_rfl)) (fun _ _ _ h => h) (Or.inl ⟨by rfl, ?_⟩) ?_ ?_
    rotate_left
    ·intro w'
     go_simp
     with_reducible rfl
    rotate_left
    ·simp only [ps_]
     rfl
    refine take_ (i := 19) (N := (some 41)) (v := ?_) (a' := ?_) #[true, true, true, true, true, true, true, true, true, true, true, true, true, true, true, true, true, true, true, true, false, false, false, false, false, false, false, false, false, false, false, false, false, false, false, false, false, false, false, false, false, false] rfl rfl (take_of HT_.out (by kernel_rfl)) (fun _ _ _ h => h) (Or.inl ⟨by rfl, ?_⟩) hHeld ?_ ?_
    rotate_left
    ·intro w' hS_
     have hx_ := hc4 w' hS_
     go_simp
     with_reducible rfl
    rotate_left
    ·simp only [ps_]
     rfl
    refine pure_ (i := 20) (N := (some 42)) (v := ?_) (a' := ?_) #[true, true, true, true, true, true, true, true, true, true, true, true, true, true, true, true, true, true, true, true, true, false, false, false, false, false, false, false, false, false, false, false, false, false, false, false, false, false, false, false, false, false] rfl rfl (any_of HT_.out (by kernel_rfl)) (fun _ _ _ h => h) (Or.inl ⟨by rfl, ?_⟩) ?_ ?_
    rotate_left
    ·intro w'
     go_simp
     with_reducible rfl
    rotate_left
    ·simp only [ps_]
     rfl
    refine pure_ (i := 21) (N := (some 43)) (v := ?_) (a' := ?_) #[true, true, true, true, true, true, true, true, true, true, true, true, true, true, true, true, true, true, true, true, true, true, false, false, false, false, false, false, false, false, false, false, false, false, false, false, false, false, false, false, false, false] rfl rfl (any_of HT_.out (by kernel_rfl)) (fun _ _ _ h => h) (Or.inl ⟨by rfl, ?_⟩) ?_ ?_
    rotate_left
    ·intro w'
     go_simp
     with_reducible rfl
    rotate_left
    ·simp only [ps_]
     rfl
    refine pure_ (i := 22) (N := (some 44)) (v := ?_) (a' := ?_) #[true, true, true, true, true, true, true, true, true, true, true, true, true, true, true, true, true, true, true, true, true, true, true, false, false, false, false, false, false, false, false, false, false, false, false, false, false, false, false, false, false, false] rfl rfl (any_of HT_.out (by kernel_rfl)) (fun _ _ _ h => h) (Or.inl ⟨by rfl, ?_⟩) ?_ ?_
    rotate_left
    ·intro w'
     go_simp
     with_reducible rfl
    rotate_left
    ·simp only [ps_]
     rfl
    refine take_ (i := 23) (N := (some 45)) (v := ?_) (a' := ?_) #[true, true, true, true, true, true, true, true, true, true, true, true, true, true, true, true, true, true, true, true, true, true, true, true, false, false, false, false, false, false, false, false, false, false, false, false, false, false, false, false, false, false] rfl rfl (take_of HT_.out (by kernel_rfl)) (fun _ _ _ h => h) (Or.inl ⟨by rfl, ?_⟩) hHeld ?_ ?_
    rotate_left
    ·intro w' hS_
     have hx_ := hc5 w' hS_
     go_simp
     with_reducible rfl
    rotate_left
    ·simp only [ps_]
     rfl
    refine pure_ (i := 25) (N := (some 47)) (v := ?_) (a' := ?_) #[true, true, true, true, true, true, true, true, true, true, true, true, true, true, true, true, true, true, true, true, true, true, true, true, false, true, false, false, false, false, false, false, false, false, false, false, false, false, false, false, false, false] rfl rfl (any_of HT_.out (by kernel_rfl)) (fun _ _ _ h => h) (Or.inl ⟨by rfl, ?_⟩) ?_ ?_
    rotate_left
    ·intro w'
     go_simp
     with_reducible rfl
    rotate_left
    ·simp only [ps_]
     rfl
    refine take_ (i := 26) (N := (some 48)) (v := ?_) (a' := ?_) #[true, true, true, true, true, true, true, true, true, true, true, true, true, true, true, true, true, true, true, true, true, true, true, true, false, true, true, false, false, false, false, false, false, false, false, false, false, false, false, false, false, false] rfl rfl (take_of HT_.out (by kernel_rfl)) (fun _ _ _ h => h) (Or.inl ⟨by rfl, ?_⟩) hHeld ?_ ?_
    rotate_left
    ·intro w' hS_
     have hx_ := hc6 w' hS_
     go_simp
     with_reducible rfl
    rotate_left
    ·simp only [ps_]
     rfl
    refine pure_ (i := 27) (N := (some 49)) (v := ?_) (a' := ?_) #[true, true, true, true, true, true, true, true, true, true, true, true, true, true, true, true, true, true, true, true, true, true, true, true, false, true, true, true, false, false, false, false, false, false, false, false, false, false, false, false, false, false] rfl rfl (any_of HT_.out (by kernel_rfl)) (fun _ _ _ h => h) (Or.inl ⟨by rfl, ?_⟩) ?_ ?_
    rotate_left
    ·intro w'
     go_simp
     with_reducible rfl
    rotate_left
    ·simp only [ps_]
     rfl
    refine pure_ (i := 28) (N := (some 50)) (v := ?_) (a' := ?_) #[true, true, true, true, true, true, true, true, true, true, true, true, true, true, true, true, true, true, true, true, true, true, true, true, false, true, true, true, true, false, false, false, false, false, false, false, false, false, false, false, false, false] rfl rfl (any_of HT_.out (by kernel_rfl)) (fun _ _ _ h => h) (Or.inl ⟨by rfl, ?_⟩) ?_ ?_
    rotate_left
    ·intro w'
     go_simp
     with_reducible rfl
    rotate_left
    ·simp only [ps_]
     rfl
    refine take_ (i := 29) (N := (some 51)) (v := ?_) (a' := ?_) #[true, true, true, true, true, true, true, true, true, true, true, true, true, true, true, true, true, true, true, true, true, true, true, true, false, true, true, true, true, true, false, false, false, false, false, false, false, false, false, false, false, false] rfl rfl (take_of HT_.out (by kernel_rfl)) (fun _ _ _ h => h) (Or.inl ⟨by rfl, ?_⟩) hHeld ?_ ?_
    rotate_left
    ·intro w' hS_
     have hx_ := hc6 w' hS_
     go_simp
     with_reducible rfl
    rotate_left
    ·simp only [ps_]
     rfl
    refine pure_ (i := 30) (N := (some 52)) (v := ?_) (a' := ?_) #[true, true, true, true, true, true, true, true, true, true, true, true, true, true, true, true, true, true, true, true, true, true, true, true, false, true, true, true, true, true, true, false, false, false, false, false, false, false, false, false, false, false] rfl rfl (any_of HT_.out (by kernel_rfl)) (fun _ _ _ h => h) (Or.inl ⟨by rfl, ?_⟩) ?_ ?_
    rotate_left
    ·intro w'
     go_simp
     with_reducible rfl
    rotate_left
    ·simp only [ps_]
     rfl
    refine pure_ (i := 31) (N := (some 53)) (v := ?_) (a' := ?_) #[true, true, true, true, true, true, true, true, true, true, true, true, true, true, true, true, true, true, true, true, true, true, true, true, false, true, true, true, true, true, true, true, false, false, false, false, false, false, false, false, false, false] rfl rfl (any_of HT_.out (by kernel_rfl)) (fun _ _ _ h => h) (Or.inl ⟨by rfl, ?_⟩) ?_ ?_
    rotate_left
    ·intro w'
     go_simp
     with_reducible rfl
    rotate_left
    ·simp only [ps_]
     rfl
    refine take_ (i := 32) (N := (some 54)) (v := ?_) (a' := ?_) #[true, true, true, true, true, true, true, true, true, true, true, true, true, true, true, true, true, true, true, true, true, true, true, true, false, true, true, true, true, true, true, true, true, false, false, false, false, false, false, false, false, false] rfl rfl (take_of HT_.out (by kernel_rfl)) (fun _ _ _ h => h) (Or.inl ⟨by rfl, ?_⟩) hHeld ?_ ?_
    rotate_left
    ·intro w' hS_
     have hx_ := hc7 w' hS_
     go_simp
     with_reducible rfl
    rotate_left
    ·simp only [ps_]
     rfl
    refine pure_ (i := 33) (N := (some 55)) (v := ?_) (a' := ?_) #[true, true, true, true, true, true, true, true, true, true, true, true, true, true, true, true, true, true, true, true, true, true, true, true, false, true, true, true, true, true, true, true, true, true, false, false, false, false, false, false, false, false] rfl rfl (any_of HT_.out (by kernel_rfl)) (fun _ _ _ h => h) (Or.inl ⟨by rfl, ?_⟩) ?_ ?_
    rotate_left
    ·intro w'
     go_simp
     with_reducible rfl
    rotate_left
    ·simp only [ps_]
     rfl
    refine pure_ (i := 34) (N := (some 56)) (v := ?_) (a' := ?_) #[true, true, true, true, true, true, true, true, true, true, true, true, true, true, true, true, true, true, true, true, true, true, true, true, false, true, true, true, true, true, true, true, true, true, true, false, false, false, false, false, false, false] rfl rfl (any_of HT_.out (by kernel_rfl)) (fun _ _ _ h => h) (Or.inl ⟨by rfl, ?_⟩) ?_ ?_
    rotate_left
    ·intro w'
     go_simp
     with_reducible rfl
    rotate_left
    ·simp only [ps_]
     rfl
    refine pure_ (i := 35) (N := (some 57)) (v := ?_) (a' := ?_) #[true, true, true, true, true, true, true, true, true, true, true, true, true, true, true, true, true, true, true, true, true, true, true, true, false, true, true, true, true, true, true, true, true, true, true, true, false, false, false, false, false, false] rfl rfl (any_of HT_.out (by kernel_rfl)) (fun _ _ _ h => h) (Or.inl ⟨by rfl, ?_⟩) ?_ ?_
    rotate_left
    ·intro w'
     go_simp
     with_reducible rfl
    rotate_left
    ·simp only [ps_]
     rfl
    refine take_ (i := 36) (N := (some 58)) (v := ?_) (a' := ?_) #[true, true, true, true, true, true, true, true, true, true, true, true, true, true, true, true, true, true, true, true, true, true, true, true, false, true, true, true, true, true, true, true, true, true, true, true, true, false, false, false, false, false] rfl rfl (take_of HT_.out (by kernel_rfl)) (fun _ _ _ h => h) (Or.inl ⟨by rfl, ?_⟩) hHeld ?_ ?_
    rotate_left
    ·intro w' hS_
     have hx_ := hc8 w' hS_
     go_simp
     with_reducible rfl
    rotate_left
    ·simp only [ps_]
     rfl
    refine pure_ (i := 37) (N := (some 59)) (v := ?_) (a' := ?_) #[true, true, true, true, true, true, true, true, true, true, true, true, true, true, true, true, true, true, true, true, true, true, true, true, false, true, true, true, true, true, true, true, true, true, true, true, true, true, false, false, false, false] rfl rfl (any_of HT_.out (by kernel_rfl)) (fun _ _ _ h => h) (Or.inl ⟨by rfl, ?_⟩) ?_ ?_
    rotate_left
    ·intro w'
     go_simp
     with_reducible rfl
    rotate_left
    ·simp only [ps_]
     rfl
    refine pure_ (i := 38) (N := (some 60)) (v := ?_) (a' := ?_) #[true, true, true, true, true, true, true, true, true, true, true, true, true, true, true, true, true, true, true, true, true, true, true, true, false, true, true, true, true, true, true, true, true, true, true, true, true, true, true, false, false, false] rfl rfl (any_of HT_.out (by kernel_rfl)) (fun _ _ _ h => h) (Or.inl ⟨by rfl, ?_⟩) ?_ ?_
    rotate_left
    ·intro w'
     go_simp
     with_reducible rfl
    rotate_left
    ·simp only [ps_]
     rfl
    refine join_ (σ := Nat) 1 #[true, true, true, true, true, true, true, true, true, true, true, true, true, true, true, true, true, true, true, true, true, true, true, true, true, true, true, true, true, true, true, true, true, true, true, true, true, true, true, true, true, false] (fun g => [(46, .string (Spn.nm (d 5))), (61, .agg #[.int .u64 (IntKind.u64.wrap ((d 0).tmod 3)), .int .u64 (IntKind.u64.wrap (IntKind.u64.wrap (IntKind.u64.wrap (IntKind.u64.wrap ((d 1).tmod 4) * 18014398509481984) + IntKind.u64.wrap (d 2)) + 1)), .int .u64 (IntKind.u64.wrap (IntKind.u64.wrap (d 3) + 1)), .int .u64 (IntKind.u64.wrap ((d 4).tmod 3)), .string (Spn.nm (d 5)), .int .i64 (wrap64 (d 6)), .int .i64 (wrap64 (wrap64 (d 6) + wrap64 (d 7))), .bool ((d 8).tmod 3 == 0), .slice none 0 0, .int .u64 0]), (5, .pointer (some ⟨g, 0, none⟩))]) (fun g w' => Below wr.heap.size wr w' ∧ w'.heap[g]? = some (.cells #[.int .u64 0, .int .u64 0, .int .u64 0, .int .u64 0, .string ⟨#[]⟩, .int .i64 0, .int .i64 0, .bool false, .slice none 0 0, .int .u64 0] 26 (0, 0)) ∧ wr.heap.size ≤ g) ?_ ?_
    rotate_left
    ·intro hCont
     refine two_ (i := 24) (j := 40) (Ni := some 46) (Nj := some 5) #[true, true, true, true, true, true, true, true, true, true, true, true, true, true, true, true, true, true, true, true, true, true, true, true, true, true, true, true, true, true, true, true, true, true, true, true, true, true, true, false, false, false] #[true, true, true, true, true, true, true, true, true, true, true, true, true, true, true, true, true, true, true, true, true, true, true, true, false, true, true, true, true, true, true, true, true, true, true, true, true, true, true, false, true, false] rfl rfl rfl rfl (two_of HT_.out (by kernel_rfl)) (by decide) (by decide) (fun K hK => ?_) (fun K hK => ?_)
     ·skip
      refine goes_ Try.func22 (by kernel_rfl) rfl #[.int .u8 (d 5)] (by rfl) rfl rfl (by (try simp only [List.map_toArray, List.map_cons, List.map_nil]); first | done | rfl) ?_
      refine (Spn.Name_calls _ _ _ (hnm 5 (by omega))).mono ?_
      rintro e w3 ⟨rfl, ⟨n3, hw3⟩⟩
      refine ⟨_, rfl, ?_⟩
      subst hw3
      refine hK.out _ _ (pw_below_drewN hHeld n3) (fun hHeld => ?_)
      clear hK K
      refine norm_ (a' := ?_) ?_ ?_
      rotate_left
      ·show Act.put _ (some 46) _ = _
       simp only [ps_]
       rfl
      refine pure_ (i := 39) (N := (some 61)) (v := ?_) (a' := ?_) #[true, true, true, true, true, true, true, true, true, true, true, true, true, true, true, true, true, true, true, true, true, true, true, true, true, true, true, true, true, true, true, true, true, true, true, true, true, true, true, true, false, false] rfl rfl (any_of HT_.out (by kernel_rfl)) (fun _ _ _ h => h) (Or.inl ⟨by rfl, ?_⟩) ?_ ?_
      rotate_left
      ·intro w'
       go_simp
       with_reducible rfl
      rotate_left
      ·simp only [ps_]
       rfl
      refine one_ (i := 40) (N := (some 5)) #[true, true, true, true, true, true, true, true, true, true, true, true, true, true, true, true, true, true, true, true, true, true, true, true, true, true, true, true, true, true, true, true, true, true, true, true, true, true, true, true, true, false] rfl rfl (one_of HT_.out (by kernel_rfl)) (by decide) (fun K hK => ?_)
      have hsz := hHeld.size
      refine box_step (by rfl) (N := 5) rfl (cs := #[.int .u64 0, .int .u64 0, .int .u64 0, .int .u64 0, .string ⟨#[]⟩, .int .i64 0, .int .i64 0, .bool false, .slice none 0 0, .int .u64 0]) (t := 26) ?hr ?_
      case hr => first | (go_simp; done) | (go_simp; rfl)
      intro g hgg w4 hbox hb4
      refine hK.out _ _ (below_step hHeld hb4) (fun hHeld => ?_)
      clear hK K
      refine norm_ (a' := ?_) ?_ ?_
      rotate_left
      ·show Act.put _ (some 5) _ = _
       simp only [ps_]
       rfl
      have hge : wr.heap.size ≤ g := by rw [hgg]; exact hsz
      exact norm_ (by simp only [putAll, Act.put, List.setIfInBounds_toArray, List.set_cons_zero, List.set_cons_succ]) (hCont g _ ⟨hHeld, hbox, hge⟩)
     ·skip
      have hsz := hHeld.size
      refine box_step (by rfl) (N := 5) rfl (cs := #[.int .u64 0, .int .u64 0, .int .u64 0, .int .u64 0, .string ⟨#[]⟩, .int .i64 0, .int .i64 0, .bool false, .slice none 0 0, .int .u64 0]) (t := 26) ?hr ?_
      case hr => first | (go_simp; done) | (go_simp; rfl)
      intro g hgg w4 hbox hb4
      refine hK.out _ _ (below_step hHeld hb4) (fun hHeld => ?_)
      clear hK K
      refine norm_ (a' := ?_) ?_ ?_
      rotate_left
      ·show Act.put _ (some 5) _ = _
       simp only [ps_]
       rfl
      have hge : wr.heap.size ≤ g := by rw [hgg]; exact hsz
      refine one_ (i := 24) (N := (some 46)) #[true, true, true, true, true, true, true, true, true, true, true, true, true, true, true, true, true, true, true, true, true, true, true, true, true, true, true, true, true, true, true, true, true, true, true, true, true, true, true, false, true, false] rfl rfl (one_of HT_.out (by kernel_rfl)) (by decide) (fun K hK => ?_)
      refine goes_ Try.func22 (by kernel_rfl) rfl #[.int .u8 (d 5)] (by rfl) rfl rfl (by (try simp only [List.map_toArray, List.map_cons, List.map_nil]); first | done | rfl) ?_
      refine (Spn.Name_calls _ _ _ (hnm 5 (by omega))).mono ?_
      rintro e w3 ⟨rfl, ⟨n3, hw3⟩⟩
      refine ⟨_, rfl, ?_⟩
      subst hw3
      refine hK.out _ _ (pw_below_drewN hHeld n3) (fun hHeld => ?_)
      clear hK K
      refine norm_ (a' := ?_) ?_ ?_
      rotate_left
      ·show Act.put _ (some 46) _ = _
       simp only [ps_]
       rfl
      refine pure_ (i := 39) (N := (some 61)) (v := ?_) (a' := ?_) #[true, true, true, true, true, true, true, true, true, true, true, true, true, true, true, true, true, true, true, true, true, true, true, true, true, true, true, true, true, true, true, true, true, true, true, true, true, true, true, true, true, false] rfl rfl (any_of HT_.out (by kernel_rfl)) (fun _ _ _ h => h) (Or.inl ⟨by rfl, ?_⟩) ?_ ?_
      rotate_left
      ·intro w'
       go_simp
       with_reducible rfl
      rotate_left
      ·simp only [ps_]
       rfl
      exact norm_ (by simp only [putAll, Act.put, List.setIfInBounds_toArray, List.set_cons_zero, List.set_cons_succ]) (hCont g _ ⟨hHeld, (by simpa using hbox), hge⟩)
    rintro g w5 ⟨hB5, hg5, hge⟩
    refine norm_ (a' := ?_) ?_ ?_
    rotate_left
    ·simp only [putAll, Act.put, List.setIfInBounds_toArray, List.set_cons_zero, List.set_cons_succ]
     rfl
    have hHeld := hB5
    refine last_ (i := 41) (N := none) #[true, true, true, true, true, true, true, true, true, true, true, true, true, true, true, true, true, true, true, true, true, true, true, true, true, true, true, true, true, true, true, true, true, true, true, true, true, true, true, true, true, true] rfl rfl (one_of HT_.out (by kernel_rfl)) (by decide) (fun K hK => ?_)
    have z0 : w5.cell? ⟨g, 0, none⟩ = some (.int .u64 0) := (blk_cell hg5 0).trans rfl
    have f0 := blk_frozen hg5 0
    have z1 : w5.cell? ⟨g, 1, none⟩ = some (.int .u64 0) := (blk_cell hg5 1).trans rfl
    have f1 := blk_frozen hg5 1
    have z2 : w5.cell? ⟨g, 2, none⟩ = some (.int .u64 0) := (blk_cell hg5 2).trans rfl
    have f2 := blk_frozen hg5 2
    have z3 : w5.cell? ⟨g, 3, none⟩ = some (.int .u64 0) := (blk_cell hg5 3).trans rfl
    have f3 := blk_frozen hg5 3
    have z4 : w5.cell? ⟨g, 4, none⟩ = some (.string ⟨#[]⟩) := (blk_cell hg5 4).trans rfl
    have f4 := blk_frozen hg5 4
    have z5 : w5.cell? ⟨g, 5, none⟩ = some (.int .i64 0) := (blk_cell hg5 5).trans rfl
    have f5 := blk_frozen hg5 5
    have z6 : w5.cell? ⟨g, 6, none⟩ = some (.int .i64 0) := (blk_cell hg5 6).trans rfl
    have f6 := blk_frozen hg5 6
    have z7 : w5.cell? ⟨g, 7, none⟩ = some (.bool false) := (blk_cell hg5 7).trans rfl
    have f7 := blk_frozen hg5 7
    have z8 : w5.cell? ⟨g, 8, none⟩ = some (.slice none 0 0) := (blk_cell hg5 8).trans rfl
    have f8 := blk_frozen hg5 8
    have z9 : w5.cell? ⟨g, 9, none⟩ = some (.int .u64 0) := (blk_cell hg5 9).trans rfl
    have f9 := blk_frozen hg5 9
    refine skip_ (w1 := ?_) (by rfl) rfl ?_ ?_
    rotate_left
    ·go_simp
     rfl
    refine hK.out _ _ (done_ (done_of HT_.out (by kernel_rfl)) ?_)
    clear hK K
    have HR5 := (hB5.block _ (blk_lt HR.out)).trans HR.out
    have HD5 := (hB5.block _ (blk_lt HD.out)).trans HD.out
    have hgR : g ≠ w.heap.size := by have := blk_lt HR.out; omega
    have hgD : g ≠ w.heap.size + 1 := by have := blk_lt HD.out; omega
    have hg0 : w.heap.size ≤ g := by have := HB.out.size; omega
    have hBw : Below w.heap.size w w5 := below_step HB.out hB5
    generalize ex0 : IntKind.u64.wrap ((d 0).tmod 3) = x0
    generalize ex1 : IntKind.u64.wrap (IntKind.u64.wrap (IntKind.u64.wrap (IntKind.u64.wrap ((d 1).tmod 4) * 18014398509481984) + IntKind.u64.wrap (d 2)) + 1) = x1
    generalize ex2 : IntKind.u64.wrap (IntKind.u64.wrap (d 3) + 1) = x2
    generalize ex3 : IntKind.u64.wrap ((d 4).tmod 3) = x3
    generalize ex4 : Spn.nm (d 5) = x4
    generalize ex6 : wrap64 (wrap64 (d 6) + wrap64 (d 7)) = x6
    generalize ex5 : wrap64 (d 6) = x5
    generalize ex7 : ((d 8).tmod 3 == 0) = x7
    have st : Spn.St w D g #[.int .u64 x0, .int .u64 x1, .int .u64 x2, .int .u64 x3, .string x4, .int .i64 x5, .int .i64 x6, .bool x7, .slice none 0 0, .int .u64 0] _ :=
     ⟨Spn.below10 w w5 g hBw hg0 (.int .u64 x0) (.int .u64 x1) (.int .u64 x2) (.int .u64 x3) (.string x4) (.int .i64 x5) (.int .i64 x6) (.bool x7) (.slice none 0 0) (.int .u64 0), (Spn.far10 w5 g _ (Ne.symm hgR) _ _ _ _ _ _ _ _ _ _).trans HR5, (Spn.far10 w5 g _ (Ne.symm hgD) _ _ _ _ _ _ _ _ _ _).trans HD5, Spn.store10 w5 g _ _ _ _ _ _ _ _ _ _ _ _ _ _ _ _ _ _ _ _ hg5, hg0, hgR, hgD⟩
    generalize ((((((((((w5.setCell ⟨g, 0, none⟩ (.int .u64 x0)).setCell ⟨g, 1, none⟩ (.int .u64 x1)).setCell ⟨g, 2, none⟩ (.int .u64 x2)).setCell ⟨g, 3, none⟩ (.int .u64 x3)).setCell ⟨g, 4, none⟩ (.string x4)).setCell ⟨g, 5, none⟩ (.int .i64 x5)).setCell ⟨g, 6, none⟩ (.int .i64 x6)).setCell ⟨g, 7, none⟩ (.bool x7)).setCell ⟨g, 8, none⟩ (.slice none 0 0)).setCell ⟨g, 9, none⟩ (.int .u64 0)) = W6 at st ⊢
    clear HD5 HR5 hg5 hB5 hBw
    clear z0 f0
    clear z1 f1
    clear z2 f2
    clear z3 f3
    clear z4 f4
    clear z5 f5
    clear z6 f6
    clear z7 f7
    clear z8 f8
    clear z9 f9
    have hd8 := hd 8 (by omega)
    have hd9 := hd 9 (by omega)
    have hd10 := hd 10 (by omega)
    have hd11 := hd 11 (by omega)
    have q10 : Int.tmod (d 10) 3 = 0 ∨ Int.tmod (d 10) 3 = 1 ∨ Int.tmod (d 10) 3 = 2 := by rw [Int.tmod_eq_emod_of_nonneg hd10.1]; omega
    have c8 : W6.cell? ⟨w.heap.size + 1, 8, none⟩ = some (.int .u8 (d 8)) := (blk_cell st.hD 8).trans (hDc 8 (by omega))
    have c9 : W6.cell? ⟨w.heap.size + 1, 9, none⟩ = some (.int .u8 (d 9)) := (blk_cell st.hD 9).trans (hDc 9 (by omega))
    have c10 : W6.cell? ⟨w.heap.size + 1, 10, none⟩ = some (.int .u8 (d 10)) := (blk_cell st.hD 10).trans (hDc 10 (by omega))
    have c10' : ∀ u, (W6.setCell ⟨g, 9, none⟩ u).cell? ⟨w.heap.size + 1, 10, none⟩ = some (.int .u8 (d 10)) := fun u => (blk_cell (st.set 9 u).hD 10).trans (hDc 10 (by omega))
    have s9 : W6.cell? ⟨g, 9, none⟩ = some (.int .u64 0) := (blk_cell st.hS 9).trans rfl
    have t9 := blk_frozen st.hS 9
    have hne1 : g ≠ w.heap.size := hgR
    have hne2 : g ≠ w.heap.size + 1 := hgD
    clear hc0 hc1 hc2 hc3 hc4 hc5 hc6 hc7 hc8 hc9 hc10 hc11
    by_cases h8 : d 8 > 200
    ·have h8b : decide (d 8 > 200) = true := decide_eq_true h8
     have hrv : Spn.rv d = d 9 * 281474976710656 + 1 := by rw [Spn.rv, if_pos h8]
     obtain ⟨FW, hFW⟩ : ∃ F : Value → World, ∀ u, W6.setCell ⟨g, 9, none⟩ u = F u := ⟨_, fun _ => rfl⟩
     have c10F : ∀ u, (FW u).cell? ⟨w.heap.size + 1, 10, none⟩ = some (.int .u8 (d 10)) := fun u => by rw [← hFW]; exact c10' u
     clear c10 c10'
     have st7 : Spn.St w D g #[.int .u64 x0, .int .u64 x1, .int .u64 x2, .int .u64 x3, .string x4, .int .i64 x5, .int .i64 x6, .bool x7, .slice none 0 0, .int .u64 (d 9 * 281474976710656 + 1)] (FW (.int .u64 (d 9 * 281474976710656 + 1))) := by rw [← hFW]; simpa using st.set 9 (.int .u64 (d 9 * 281474976710656 + 1))
     rcases q10 with q10 | q10 | q10
     ·have hat : Spn.attrs d = [] := by rw [Spn.attrs, if_pos q10]
      have y0 : (FW (.int .u64 (d 9 * 281474976710656 + 1))).cell? ⟨g, 0, none⟩ = some (.int .u64 x0) := (blk_cell st7.hS 0).trans rfl
      have y1 : (FW (.int .u64 (d 9 * 281474976710656 + 1))).cell? ⟨g, 1, none⟩ = some (.int .u64 x1) := (blk_cell st7.hS 1).trans rfl
      have y2 : (FW (.int .u64 (d 9 * 281474976710656 + 1))).cell? ⟨g, 2, none⟩ = some (.int .u64 x2) := (blk_cell st7.hS 2).trans rfl
      have y3 : (FW (.int .u64 (d 9 * 281474976710656 + 1))).cell? ⟨g, 3, none⟩ = some (.int .u64 x3) := (blk_cell st7.hS 3).trans rfl
      have y4 : (FW (.int .u64 (d 9 * 281474976710656 + 1))).cell? ⟨g, 4, none⟩ = some (.string x4) := (blk_cell st7.hS 4).trans rfl
      have y5 : (FW (.int .u64 (d 9 * 281474976710656 + 1))).cell? ⟨g, 5, none⟩ = some (.int .i64 x5) := (blk_cell st7.hS 5).trans rfl
      have y6 : (FW (.int .u64 (d 9 * 281474976710656 + 1))).cell? ⟨g, 6, none⟩ = some (.int .i64 x6) := (blk_cell st7.hS 6).trans rfl
      have y7 : (FW (.int .u64 (d 9 * 281474976710656 + 1))).cell? ⟨g, 7, none⟩ = some (.bool x7) := (blk_cell st7.hS 7).trans rfl
      have y8 : (FW (.int .u64 (d 9 * 281474976710656 + 1))).cell? ⟨g, 8, none⟩ = some (.slice none 0 0) := (blk_cell st7.hS 8).trans rfl
      have y9 : (FW (.int .u64 (d 9 * 281474976710656 + 1))).cell? ⟨g, 9, none⟩ = some (.int .u64 (d 9 * 281474976710656 + 1)) := (blk_cell st7.hS 9).trans rfl
      have r0 : (FW (.int .u64 (d 9 * 281474976710656 + 1))).cell? ⟨w.heap.size, 0, none⟩ = some (.int .u64 0) := (blk_cell st7.hR 0).trans rfl
      have e0 := blk_frozen st7.hR 0
      have r1 : (FW (.int .u64 (d 9 * 281474976710656 + 1))).cell? ⟨w.heap.size, 1, none⟩ = some (.int .u64 0) := (blk_cell st7.hR 1).trans rfl
      have e1 := blk_frozen st7.hR 1
      have r2 : (FW (.int .u64 (d 9 * 281474976710656 + 1))).cell? ⟨w.heap.size, 2, none⟩ = some (.int .u64 0) := (blk_cell st7.hR 2).trans rfl
      have e2 := blk_frozen st7.hR 2
      have r3 : (FW (.int .u64 (d 9 * 281474976710656 + 1))).cell? ⟨w.heap.size, 3, none⟩ = some (.int .u64 0) := (blk_cell st7.hR 3).trans rfl
      have e3 := blk_frozen st7.hR 3
      have r4 : (FW (.int .u64 (d 9 * 281474976710656 + 1))).cell? ⟨w.heap.size, 4, none⟩ = some (.string ⟨#[]⟩) := (blk_cell st7.hR 4).trans rfl
      have e4 := blk_frozen st7.hR 4
      have r5 : (FW (.int .u64 (d 9 * 281474976710656 + 1))).cell? ⟨w.heap.size, 5, none⟩ = some (.int .i64 0) := (blk_cell st7.hR 5).trans rfl
      have e5 := blk_frozen st7.hR 5
      have r6 : (FW (.int .u64 (d 9 * 281474976710656 + 1))).cell? ⟨w.heap.size, 6, none⟩ = some (.int .i64 0) := (blk_cell st7.hR 6).trans rfl
      have e6 := blk_frozen st7.hR 6
      have r7 : (FW (.int .u64 (d 9 * 281474976710656 + 1))).cell? ⟨w.heap.size, 7, none⟩ = some (.bool false) := (blk_cell st7.hR 7).trans rfl
      have e7 := blk_frozen st7.hR 7
      have r8 : (FW (.int .u64 (d 9 * 281474976710656 + 1))).cell? ⟨w.heap.size, 8, none⟩ = some (.slice none 0 0) := (blk_cell st7.hR 8).trans rfl
      have e8 := blk_frozen st7.hR 8
      have r9 : (FW (.int .u64 (d 9 * 281474976710656 + 1))).cell? ⟨w.heap.size, 9, none⟩ = some (.int .u64 0) := (blk_cell st7.hR 9).trans rfl
      have e9 := blk_frozen st7.hR 9
      have d10' : (FW (.int .u64 (d 9 * 281474976710656 + 1))).cell? ⟨w.heap.size + 1, 10, none⟩ = some (.int .u8 (d 10)) := (blk_cell st7.hD 10).trans (hDc 10 (by omega))
      clear hDc hd
      go_wp2
      have hres : Try.f10.results = #[.cell 2 26] := by kernel_rfl
      refine bodyPost_ret (v := .agg #[.int .u64 x0, .int .u64 x1, .int .u64 x2, .int .u64 x3, .string x4, .int .i64 x5, .int .i64 x6, .bool x7, .slice none 0 0, .int .u64 (d 9 * 281474976710656 + 1)]) ?_ rfl (show Spn.Post d w _ _ from ⟨.slice none 0 0, ?_, ?_, ?_⟩)
      ·simp only [results, hres]
       go_simp
      ·rw [hrv, ex0, ex1, ex2, ex3, ex4, ex6, ex5, ex7]
      ·rw [hat]
       exact Kd.R_nil _ _ _ _ _
      ·exact Spn.below10 w _ _ st7.hB (Nat.le_refl _) _ _ _ _ _ _ _ _ _ _
     ·have hat : Spn.attrs d = [⟨⟨#[97]⟩, Spn.nm (d 11)⟩] := by rw [Spn.attrs, if_neg (by omega), if_pos q10]
      have h11 := fun (w' : World) (hS_ : Spn.St w D g #[.int .u64 x0, .int .u64 x1, .int .u64 x2, .int .u64 x3, .string x4, .int .i64 x5, .int .i64 x6, .bool x7, .slice none 0 0, .int .u64 (d 9 * 281474976710656 + 1)] w') => (blk_cell hS_.hD 11).trans (hDc 11 (by omega))
      have h8s := fun (w' : World) (hS_ : Spn.St w D g #[.int .u64 x0, .int .u64 x1, .int .u64 x2, .int .u64 x3, .string x4, .int .i64 x5, .int .i64 x6, .bool x7, .slice none 0 0, .int .u64 (d 9 * 281474976710656 + 1)] w') => (blk_cell hS_.hS 8).trans (rfl : (#[.int .u64 x0, .int .u64 x1, .int .u64 x2, .int .u64 x3, .string x4, .int .i64 x5, .int .i64 x6, .bool x7, .slice none 0 0, .int .u64 (d 9 * 281474976710656 + 1)] : Array Value)[8]? = some (.slice none 0 0))
      go_wp2
      refine start_ (n := 10) (S := fun w' => Spn.St w D g #[.int .u64 x0, .int .u64 x1, .int .u64 x2, .int .u64 x3, .string x4, .int .i64 x5, .int .i64 x6, .bool x7, .slice none 0 0, .int .u64 (d 9 * 281474976710656 + 1)] w') (ds := [9]) #[false, false, false, false, false, false, false, false, false, false] (by kernel_rfl) rfl rfl (st7.below (below_drew (Below.refl _ _))) (fun hHeld => ?_)
      refine with_tab Spn.tab10 (fun HT_ => ?_)
      generalize (World.drew (FW (.int .u64 (d 9 * 281474976710656 + 1)))) = w8 at hHeld ⊢
      refine pure_ (i := 0) (N := (some 75)) (v := ?_) (a' := ?_) #[true, false, false, false, false, false, false, false, false, false] rfl rfl (any_of HT_.out (by kernel_rfl)) (fun _ _ _ h => h) (Or.inl ⟨by rfl, ?_⟩) ?_ ?_
      rotate_left
      ·intro w'
       go_simp
       with_reducible rfl
      rotate_left
      ·simp only [ps_]
       rfl
      refine take_ (i := 1) (N := (some 76)) (v := ?_) (a' := ?_) #[true, true, false, false, false, false, false, false, false, false] rfl rfl (take_of HT_.out (by kernel_rfl)) (fun _ _ _ h => h) (Or.inl ⟨by rfl, ?_⟩) hHeld ?_ ?_
      rotate_left
      ·intro w' hS_
       have hx_ := h8s w' hS_
       go_simp
       with_reducible rfl
      rotate_left
      ·simp only [ps_]
       rfl
      refine pure_ (i := 2) (N := (some 77)) (v := ?_) (a' := ?_) #[true, true, true, false, false, false, false, false, false, false] rfl rfl (any_of HT_.out (by kernel_rfl)) (fun _ _ _ h => h) (Or.inl ⟨by rfl, ?_⟩) ?_ ?_
      rotate_left
      ·intro w'
       go_simp
       with_reducible rfl
      rotate_left
      ·simp only [ps_]
       rfl
      refine take_ (i := 3) (N := (some 78)) (v := ?_) (a' := ?_) #[true, true, true, true, false, false, false, false, false, false] rfl rfl (take_of HT_.out (by kernel_rfl)) (fun _ _ _ h => h) (Or.inl ⟨by rfl, ?_⟩) hHeld ?_ ?_
      rotate_left
      ·intro w' hS_
       have hx_ := h11 w' hS_
       go_simp
       with_reducible rfl
      rotate_left
      ·simp only [ps_]
       rfl
      refine one_ (i := 4) (N := (some 79)) #[true, true, true, true, true, false, false, false, false, false] rfl rfl (one_of HT_.out (by kernel_rfl)) (by decide) (fun K hK => ?_)
      refine goes_ Try.func22 (by kernel_rfl) rfl #[.int .u8 (d 11)] (by rfl) rfl rfl (by (try simp only [List.map_toArray, List.map_cons, List.map_nil]); first | done | rfl) ?_
      refine (Spn.Name_calls _ _ _ (hnm 11 (by omega))).mono ?_
      rintro e w3 ⟨rfl, ⟨n3, hw3⟩⟩
      refine ⟨_, rfl, ?_⟩
      have hHeld3 := hHeld.below (W' := w3) (by rw [hw3]; exact pw_below_drewN (Below.refl _ _) n3)
      clear hw3 hHeld
      refine hK.out _ _ hHeld3 (fun hHeld => ?_)
      clear hK K hHeld3
      refine norm_ (a' := ?_) ?_ ?_
      rotate_left
      ·show Act.put _ (some 79) _ = _
       simp only [ps_]
       rfl
      refine pure_ (i := 5) (N := (some 80)) (v := ?_) (a' := ?_) #[true, true, true, true, true, true, false, false, false, false] rfl rfl (any_of HT_.out (by kernel_rfl)) (fun _ _ _ h => h) (Or.inl ⟨by rfl, ?_⟩) ?_ ?_
      rotate_left
      ·intro w'
       go_simp
       with_reducible rfl
      rotate_left
      ·simp only [ps_]
       rfl
      refine one_ (i := 6) (N := (some 81)) #[true, true, true, true, true, true, true, false, false, false] rfl rfl (one_of HT_.out (by kernel_rfl)) (by decide) (fun K hK => ?_)
      refine value_ (w1 := ?_) (v := ?_) (by rfl) rfl ?_ ?_
      rotate_left 2
      ·go_simp
       constructor
       ·rfl
       ·rfl
      refine hK.out _ _ (hHeld.below (below_alloc (Below.refl _ _) _)) (fun hHeld6 => ?_)
      clear hK K
      refine norm_ (a' := ?_) ?_ ?_
      rotate_left
      ·show Act.put _ (some 81) _ = _
       simp only [ps_]
       rfl
      refine one_ (i := 7) (N := (some 82)) #[true, true, true, true, true, true, true, true, false, false] rfl rfl (one_of HT_.out (by kernel_rfl)) (by decide) (fun K hK => ?_)
      refine Kd.R_append_step k36 (w0 := w) w.heap.size (by rfl) (.tmp 76) (.tmp 81) 24 36 (.agg #[(.string ⟨#[]⟩), (.string ⟨#[]⟩)]) 32 rfl Try.underlying24 Spn.info64 rfl (by decide) (by omega) (.slice none 0 0) [] (⟨⟨#[97]⟩, Spn.nm (d 11)⟩ : S36) [.string ⟨#[97]⟩, .string (Spn.nm (d 11))] (fun _ => True) (fun _ => False) rfl rfl ?aP (fun _ hk => hk.elim) ?aF ?aO ?aB ?aS ?aL ?_
      case aP => exact k36_mkM _ _ _ _
      case aF => exact fun _ _ => trivial
      case aO => exact Kd.R_nil _ _ _ _ _
      case aB => exact hHeld.hB
      case aS => exact hHeld.hB.size
      case aL => simp
      intro v1 w9 hR1 hB9 hG9 hO9
      clear hHeld6
      have hHeld9 := hHeld.grown hG9 hB9 (by simp [Value.ownBlock]) (by simp [Value.ownBlock]) (by simp [Value.ownBlock])
      clear hHeld hG9 hO9 hB9
      obtain ⟨Av, cv, hv1⟩ := Kd.R_slice hR1
      subst hv1
      simp only [List.nil_append, List.length_singleton] at hR1
      refine hK.out _ _ hHeld9 (fun hHeld => ?_)
      clear hK K hHeld9
      refine norm_ (a' := ?_) ?_ ?_
      rotate_left
      ·show Act.put _ (some 82) _ = _
       simp only [ps_]
       rfl
      refine pure_ (i := 8) (N := (some 83)) (v := ?_) (a' := ?_) #[true, true, true, true, true, true, true, true, true, false] rfl rfl (any_of HT_.out (by kernel_rfl)) (fun _ _ _ h => h) (Or.inl ⟨by rfl, ?_⟩) ?_ ?_
      rotate_left
      ·intro w'
       go_simp
       with_reducible rfl
      rotate_left
      ·simp only [ps_]
       rfl
      refine last_ (i := 9) (N := none) #[true, true, true, true, true, true, true, true, true, true] rfl rfl (one_of HT_.out (by kernel_rfl)) (by decide) (fun K hK => ?_)
      have z8 := (blk_cell hHeld.hS 8).trans (rfl : (#[.int .u64 x0, .int .u64 x1, .int .u64 x2, .int .u64 x3, .string x4, .int .i64 x5, .int .i64 x6, .bool x7, .slice none 0 0, .int .u64 (d 9 * 281474976710656 + 1)] : Array Value)[8]? = some (.slice none 0 0))
      have fz8 := blk_frozen hHeld.hS 8
      refine skip_ (w1 := ?_) (by rfl) rfl ?_ ?_
      rotate_left
      ·go_simp
       rfl
      refine hK.out _ _ (done_ (done_of HT_.out (by kernel_rfl)) ?_)
      clear hK K z8 fz8
      have st10 : Spn.St w D g #[.int .u64 x0, .int .u64 x1, .int .u64 x2, .int .u64 x3, .string x4, .int .i64 x5, .int .i64 x6, .bool x7, .slice Av 1 cv, .int .u64 (d 9 * 281474976710656 + 1)] (w9.setCell ⟨g, 8, none⟩ (.slice Av 1 cv)) := by simpa using hHeld.set 8 (.slice Av 1 cv)
      have hR10 := Kd.R_set hR1 hHeld.hS Spn.E64 8 (.slice Av 1 cv)
      clear hR1 hHeld
      generalize (w9.setCell ⟨g, 8, none⟩ (.slice Av 1 cv)) = W10 at st10 hR10 ⊢
      clear HT_
      have y0 : W10.cell? ⟨g, 0, none⟩ = some (.int .u64 x0) := (blk_cell st10.hS 0).trans rfl
      have y1 : W10.cell? ⟨g, 1, none⟩ = some (.int .u64 x1) := (blk_cell st10.hS 1).trans rfl
      have y2 : W10.cell? ⟨g, 2, none⟩ = some (.int .u64 x2) := (blk_cell st10.hS 2).trans rfl
      have y3 : W10.cell? ⟨g, 3, none⟩ = some (.int .u64 x3) := (blk_cell st10.hS 3).trans rfl
      have y4 : W10.cell? ⟨g, 4, none⟩ = some (.string x4) := (blk_cell st10.hS 4).trans rfl
      have y5 : W10.cell? ⟨g, 5, none⟩ = some (.int .i64 x5) := (blk_cell st10.hS 5).trans rfl
      have y6 : W10.cell? ⟨g, 6, none⟩ = some (.int .i64 x6) := (blk_cell st10.hS 6).trans rfl
      have y7 : W10.cell? ⟨g, 7, none⟩ = some (.bool x7) := (blk_cell st10.hS 7).trans rfl
      have y8 : W10.cell? ⟨g, 8, none⟩ = some (.slice Av 1 cv) := (blk_cell st10.hS 8).trans rfl
      have y9 : W10.cell? ⟨g, 9, none⟩ = some (.int .u64 (d 9 * 281474976710656 + 1)) := (blk_cell st10.hS 9).trans rfl
      have r0 : W10.cell? ⟨w.heap.size, 0, none⟩ = some (.int .u64 0) := (blk_cell st10.hR 0).trans rfl
      have e0 := blk_frozen st10.hR 0
      have r1 : W10.cell? ⟨w.heap.size, 1, none⟩ = some (.int .u64 0) := (blk_cell st10.hR 1).trans rfl
      have e1 := blk_frozen st10.hR 1
      have r2 : W10.cell? ⟨w.heap.size, 2, none⟩ = some (.int .u64 0) := (blk_cell st10.hR 2).trans rfl
      have e2 := blk_frozen st10.hR 2
      have r3 : W10.cell? ⟨w.heap.size, 3, none⟩ = some (.int .u64 0) := (blk_cell st10.hR 3).trans rfl
      have e3 := blk_frozen st10.hR 3
      have r4 : W10.cell? ⟨w.heap.size, 4, none⟩ = some (.string ⟨#[]⟩) := (blk_cell st10.hR 4).trans rfl
      have e4 := blk_frozen st10.hR 4
      have r5 : W10.cell? ⟨w.heap.size, 5, none⟩ = some (.int .i64 0) := (blk_cell st10.hR 5).trans rfl
      have e5 := blk_frozen st10.hR 5
      have r6 : W10.cell? ⟨w.heap.size, 6, none⟩ = some (.int .i64 0) := (blk_cell st10.hR 6).trans rfl
      have e6 := blk_frozen st10.hR 6
      have r7 : W10.cell? ⟨w.heap.size, 7, none⟩ = some (.bool false) := (blk_cell st10.hR 7).trans rfl
      have e7 := blk_frozen st10.hR 7
      have r8 : W10.cell? ⟨w.heap.size, 8, none⟩ = some (.slice none 0 0) := (blk_cell st10.hR 8).trans rfl
      have e8 := blk_frozen st10.hR 8
      have r9 : W10.cell? ⟨w.heap.size, 9, none⟩ = some (.int .u64 0) := (blk_cell st10.hR 9).trans rfl
      have e9 := blk_frozen st10.hR 9
      have d10' : W10.cell? ⟨w.heap.size + 1, 10, none⟩ = some (.int .u8 (d 10)) := (blk_cell st10.hD 10).trans (hDc 10 (by omega))
      clear hDc hd
      go_wp2
      have hres : Try.f10.results = #[.cell 2 26] := by kernel_rfl
      refine bodyPost_ret (v := .agg #[.int .u64 x0, .int .u64 x1, .int .u64 x2, .int .u64 x3, .string x4, .int .i64 x5, .int .i64 x6, .bool x7, .slice Av 1 cv, .int .u64 (d 9 * 281474976710656 + 1)]) ?_ rfl (show Spn.Post d w _ _ from ⟨.slice Av 1 cv, ?_, ?_, ?_⟩)
      ·simp only [results, hres]
       go_simp
      ·rw [hrv, ex0, ex1, ex2, ex3, ex4, ex6, ex5, ex7]
      ·rw [hat]
       exact Kd.R_mono (Kd.R_step (Kd.R_types hR10 st10.hR Spn.E64) (fun k hk _ => Spn.far10 _ _ k hk.2 _ _ _ _ _ _ _ _ _ _)) (fun _ _ => trivial)
      ·exact Spn.below10 w _ _ st10.hB (Nat.le_refl _) _ _ _ _ _ _ _ _ _ _
     ·have hat : Spn.attrs d = [⟨⟨#[97]⟩, Spn.nm (d 11)⟩, ⟨(⟨#[107]⟩ : ByteArray) ++ Spn.nm (d 10), Spn.v3 (Int.tmod (d 11) 3).toNat⟩] := by rw [Spn.attrs, if_neg (by omega), if_neg (by omega)]
      have h11 := fun (w' : World) (hS_ : Spn.St w D g #[.int .u64 x0, .int .u64 x1, .int .u64 x2, .int .u64 x3, .string x4, .int .i64 x5, .int .i64 x6, .bool x7, .slice none 0 0, .int .u64 (d 9 * 281474976710656 + 1)] w') => (blk_cell hS_.hD 11).trans (hDc 11 (by omega))
      have h8s := fun (w' : World) (hS_ : Spn.St w D g #[.int .u64 x0, .int .u64 x1, .int .u64 x2, .int .u64 x3, .string x4, .int .i64 x5, .int .i64 x6, .bool x7, .slice none 0 0, .int .u64 (d 9 * 281474976710656 + 1)] w') => (blk_cell hS_.hS 8).trans (rfl : (#[.int .u64 x0, .int .u64 x1, .int .u64 x2, .int .u64 x3, .string x4, .int .i64 x5, .int .i64 x6, .bool x7, .slice none 0 0, .int .u64 (d 9 * 281474976710656 + 1)] : Array Value)[8]? = some (.slice none 0 0))
      go_wp2
      refine start_ (n := 10) (S := fun w' => Spn.St w D g #[.int .u64 x0, .int .u64 x1, .int .u64 x2, .int .u64 x3, .string x4, .int .i64 x5, .int .i64 x6, .bool x7, .slice none 0 0, .int .u64 (d 9 * 281474976710656 + 1)] w') (ds := [9]) #[false, false, false, false, false, false, false, false, false, false] (by kernel_rfl) rfl rfl (st7.below (below_drew (Below.refl _ _))) (fun hHeld => ?_)
      refine with_tab Spn.tab10 (fun HT_ => ?_)
      generalize (World.drew (FW (.int .u64 (d 9 * 281474976710656 + 1)))) = w8 at hHeld ⊢
      refine pure_ (i := 0) (N := (some 75)) (v := ?_) (a' := ?_) #[true, false, false, false, false, false, false, false, false, false] rfl rfl (any_of HT_.out (by kernel_rfl)) (fun _ _ _ h => h) (Or.inl ⟨by rfl, ?_⟩) ?_ ?_
      rotate_left
      ·intro w'
       go_simp
       with_reducible rfl
      rotate_left
      ·simp only [ps_]
       rfl
      refine take_ (i := 1) (N := (some 76)) (v := ?_) (a' := ?_) #[true, true, false, false, false, false, false, false, false, false] rfl rfl (take_of HT_.out (by kernel_rfl)) (fun _ _ _ h => h) (Or.inl ⟨by rfl, ?_⟩) hHeld ?_ ?_
      rotate_left
      ·intro w' hS_
       have hx_ := h8s w' hS_
       go_simp
       with_reducible rfl
      rotate_left
      ·simp only [ps_]
       rfl
      refine pure_ (i := 2) (N := (some 77)) (v := ?_) (a' := ?_) #[true, true, true, false, false, false, false, false, false, false] rfl rfl (any_of HT_.out (by kernel_rfl)) (fun _ _ _ h => h) (Or.inl ⟨by rfl, ?_⟩) ?_ ?_
      rotate_left
      ·intro w'
       go_simp
       with_reducible rfl
      rotate_left
      ·simp only [ps_]
       rfl
      refine take_ (i := 3) (N := (some 78)) (v := ?_) (a' := ?_) #[true, true, true, true, false, false, false, false, false, false] rfl rfl (take_of HT_.out (by kernel_rfl)) (fun _ _ _ h => h) (Or.inl ⟨by rfl, ?_⟩) hHeld ?_ ?_
      rotate_left
      ·intro w' hS_
       have hx_ := h11 w' hS_
       go_simp
       with_reducible rfl
      rotate_left
      ·simp only [ps_]
       rfl
      refine one_ (i := 4) (N := (some 79)) #[true, true, true, true, true, false, false, false, false, false] rfl rfl (one_of HT_.out (by kernel_rfl)) (by decide) (fun K hK => ?_)
      refine goes_ Try.func22 (by kernel_rfl) rfl #[.int .u8 (d 11)] (by rfl) rfl rfl (by (try simp only [List.map_toArray, List.map_cons, List.map_nil]); first | done | rfl) ?_
      refine (Spn.Name_calls _ _ _ (hnm 11 (by omega))).mono ?_
      rintro e w3 ⟨rfl, ⟨n3, hw3⟩⟩
      refine ⟨_, rfl, ?_⟩
      have hHeld3 := hHeld.below (W' := w3) (by rw [hw3]; exact pw_below_drewN (Below.refl _ _) n3)
      clear hw3 hHeld
      refine hK.out _ _ hHeld3 (fun hHeld => ?_)
      clear hK K hHeld3
      refine norm_ (a' := ?_) ?_ ?_
      rotate_left
      ·show Act.put _ (some 79) _ = _
       simp only [ps_]
       rfl
      refine pure_ (i := 5) (N := (some 80)) (v := ?_) (a' := ?_) #[true, true, true, true, true, true, false, false, false, false] rfl rfl (any_of HT_.out (by kernel_rfl)) (fun _ _ _ h => h) (Or.inl ⟨by rfl, ?_⟩) ?_ ?_
      rotate_left
      ·intro w'
       go_simp
       with_reducible rfl
      rotate_left
      ·simp only [ps_]
       rfl
      refine one_ (i := 6) (N := (some 81)) #[true, true, true, true, true, true, true, false, false, false] rfl rfl (one_of HT_.out (by kernel_rfl)) (by decide) (fun K hK => ?_)
      refine value_ (w1 := ?_) (v := ?_) (by rfl) rfl ?_ ?_
      rotate_left 2
      ·go_simp
       constructor
       ·rfl
       ·rfl
      refine hK.out _ _ (hHeld.below (below_alloc (Below.refl _ _) _)) (fun hHeld6 => ?_)
      clear hK K
      refine norm_ (a' := ?_) ?_ ?_
      rotate_left
      ·show Act.put _ (some 81) _ = _
       simp only [ps_]
       rfl
      refine one_ (i := 7) (N := (some 82)) #[true, true, true, true, true, true, true, true, false, false] rfl rfl (one_of HT_.out (by kernel_rfl)) (by decide) (fun K hK => ?_)
      refine Kd.R_append_step k36 (w0 := w) w.heap.size (by rfl) (.tmp 76) (.tmp 81) 24 36 (.agg #[(.string ⟨#[]⟩), (.string ⟨#[]⟩)]) 32 rfl Try.underlying24 Spn.info64 rfl (by decide) (by omega) (.slice none 0 0) [] (⟨⟨#[97]⟩, Spn.nm (d 11)⟩ : S36) [.string ⟨#[97]⟩, .string (Spn.nm (d 11))] (fun _ => True) (fun _ => False) rfl rfl ?aP (fun _ hk => hk.elim) ?aF ?aO ?aB ?aS ?aL ?_
      case aP => exact k36_mkM _ _ _ _
      case aF => exact fun _ _ => trivial
      case aO => exact Kd.R_nil _ _ _ _ _
      case aB => exact hHeld.hB
      case aS => exact hHeld.hB.size
      case aL => simp
      intro v1 w9 hR1 hB9 hG9 hO9
      clear hHeld6
      have hHeld9 := hHeld.grown hG9 hB9 (by simp [Value.ownBlock]) (by simp [Value.ownBlock]) (by simp [Value.ownBlock])
      clear hHeld hG9 hO9 hB9
      obtain ⟨Av, cv, hv1⟩ := Kd.R_slice hR1
      subst hv1
      simp only [List.nil_append, List.length_singleton] at hR1
      refine hK.out _ _ hHeld9 (fun hHeld => ?_)
      clear hK K hHeld9
      refine norm_ (a' := ?_) ?_ ?_
      rotate_left
      ·show Act.put _ (some 82) _ = _
       simp only [ps_]
       rfl
      refine pure_ (i := 8) (N := (some 83)) (v := ?_) (a' := ?_) #[true, true, true, true, true, true, true, true, true, false] rfl rfl (any_of HT_.out (by kernel_rfl)) (fun _ _ _ h => h) (Or.inl ⟨by rfl, ?_⟩) ?_ ?_
      rotate_left
      ·intro w'
       go_simp
       with_reducible rfl
      rotate_left
      ·simp only [ps_]
       rfl
      refine last_ (i := 9) (N := none) #[true, true, true, true, true, true, true, true, true, true] rfl rfl (one_of HT_.out (by kernel_rfl)) (by decide) (fun K hK => ?_)
      have z8 := (blk_cell hHeld.hS 8).trans (rfl : (#[.int .u64 x0, .int .u64 x1, .int .u64 x2, .int .u64 x3, .string x4, .int .i64 x5, .int .i64 x6, .bool x7, .slice none 0 0, .int .u64 (d 9 * 281474976710656 + 1)] : Array Value)[8]? = some (.slice none 0 0))
      have fz8 := blk_frozen hHeld.hS 8
      refine skip_ (w1 := ?_) (by rfl) rfl ?_ ?_
      rotate_left
      ·go_simp
       rfl
      refine hK.out _ _ (done_ (done_of HT_.out (by kernel_rfl)) ?_)
      clear hK K z8 fz8
      have st10 : Spn.St w D g #[.int .u64 x0, .int .u64 x1, .int .u64 x2, .int .u64 x3, .string x4, .int .i64 x5, .int .i64 x6, .bool x7, .slice Av 1 cv, .int .u64 (d 9 * 281474976710656 + 1)] (w9.setCell ⟨g, 8, none⟩ (.slice Av 1 cv)) := by simpa using hHeld.set 8 (.slice Av 1 cv)
      have hR10 := Kd.R_set hR1 hHeld.hS Spn.E64 8 (.slice Av 1 cv)
      clear hR1 hHeld
      generalize (w9.setCell ⟨g, 8, none⟩ (.slice Av 1 cv)) = W10 at st10 hR10 ⊢
      clear HT_
      have d10w : W10.cell? ⟨w.heap.size + 1, 10, none⟩ = some (.int .u8 (d 10)) := (blk_cell st10.hD 10).trans (hDc 10 (by omega))
      clear h11 h8s
      obtain ⟨k11, hk11, hk3⟩ : ∃ k : Nat, Int.tmod (d 11) 3 = (k : Int) ∧ k < 3 := by
       have : Int.tmod (d 11) 3 = d 11 % 3 := Int.tmod_eq_emod_of_nonneg hd11.1
       exact ⟨(Int.tmod (d 11) 3).toNat, by omega, by omega⟩
      have hm0 : 0 ≤ Int.tmod (d 11) 3 := by omega
      have hm3 : Int.tmod (d 11) 3 < 3 := by omega
      have hmk : (Int.tmod (d 11) 3).toNat = k11 := by omega
      have hk3i : (k11 : Int) < 3 := by omega
      have hnsz : ¬ 9223372036854775807 < 1 + (Spn.nm (d 10)).size := by have := Spn.nm_size (d 10); omega
      have h11 := fun (w' : World) (hS_ : Spn.St w D g #[.int .u64 x0, .int .u64 x1, .int .u64 x2, .int .u64 x3, .string x4, .int .i64 x5, .int .i64 x6, .bool x7, .slice Av 1 cv, .int .u64 (d 9 * 281474976710656 + 1)] w') => (blk_cell hS_.hD 11).trans (hDc 11 (by omega))
      have h10 := fun (w' : World) (hS_ : Spn.St w D g #[.int .u64 x0, .int .u64 x1, .int .u64 x2, .int .u64 x3, .string x4, .int .i64 x5, .int .i64 x6, .bool x7, .slice Av 1 cv, .int .u64 (d 9 * 281474976710656 + 1)] w') => (blk_cell hS_.hD 10).trans (hDc 10 (by omega))
      have h8s := fun (w' : World) (hS_ : Spn.St w D g #[.int .u64 x0, .int .u64 x1, .int .u64 x2, .int .u64 x3, .string x4, .int .i64 x5, .int .i64 x6, .bool x7, .slice Av 1 cv, .int .u64 (d 9 * 281474976710656 + 1)] w') => (blk_cell hS_.hS 8).trans (rfl : (#[.int .u64 x0, .int .u64 x1, .int .u64 x2, .int .u64 x3, .string x4, .int .i64 x5, .int .i64 x6, .bool x7, .slice Av 1 cv, .int .u64 (d 9 * 281474976710656 + 1)] : Array Value)[8]? = some (.slice Av 1 cv))
      go_wp2
      refine start_ (n := 17) (S := fun w' => Spn.St w D g #[.int .u64 x0, .int .u64 x1, .int .u64 x2, .int .u64 x3, .string x4, .int .i64 x5, .int .i64 x6, .bool x7, .slice Av 1 cv, .int .u64 (d 9 * 281474976710656 + 1)] w' ∧ Kd.R k36 36 w' w.heap.size (fun _ => True) (.slice Av 1 cv) [⟨⟨#[97]⟩, Spn.nm (d 11)⟩]) (ds := [14, 16]) #[false, false, false, false, false, false, false, false, false, false, false, false, false, false, false, false, false] (by kernel_rfl) rfl rfl ⟨st10.below (below_drew (Below.refl _ _)), Kd.R_below hR10 (below_drew (Below.refl _ _))⟩ (fun hHeld => ?_)
      refine with_tab Spn.tab12 (fun HT_ => ?_)
      generalize (World.drew W10) = w11 at hHeld ⊢
      clear st10 hR10
      refine pure_ (i := 0) (N := (some 88)) (v := ?_) (a' := ?_) #[true, false, false, false, false, false, false, false, false, false, false, false, false, false, false, false, false] rfl rfl (any_of HT_.out (by kernel_rfl)) (fun _ _ _ h => h) (Or.inl ⟨by rfl, ?_⟩) ?_ ?_
      rotate_left
      ·intro w'
       go_simp
       with_reducible rfl
      rotate_left
      ·simp only [ps_]
       rfl
      refine take_ (i := 1) (N := (some 89)) (v := ?_) (a' := ?_) #[true, true, false, false, false, false, false, false, false, false, false, false, false, false, false, false, false] rfl rfl (take_of HT_.out (by kernel_rfl)) (fun _ _ _ h => h) (Or.inl ⟨by rfl, ?_⟩) hHeld ?_ ?_
      rotate_left
      ·intro w' hS_
       have hx_ := h8s w' hS_.1
       go_simp
       with_reducible rfl
      rotate_left
      ·simp only [ps_]
       rfl
      refine pure_ (i := 2) (N := (some 90)) (v := ?_) (a' := ?_) #[true, true, true, false, false, false, false, false, false, false, false, false, false, false, false, false, false] rfl rfl (any_of HT_.out (by kernel_rfl)) (fun _ _ _ h => h) (Or.inl ⟨by rfl, ?_⟩) ?_ ?_
      rotate_left
      ·intro w'
       go_simp
       with_reducible rfl
      rotate_left
      ·simp only [ps_]
       rfl
      refine take_ (i := 3) (N := (some 91)) (v := ?_) (a' := ?_) #[true, true, true, true, false, false, false, false, false, false, false, false, false, false, false, false, false] rfl rfl (take_of HT_.out (by kernel_rfl)) (fun _ _ _ h => h) (Or.inl ⟨by rfl, ?_⟩) hHeld ?_ ?_
      rotate_left
      ·intro w' hS_
       have hx_ := h10 w' hS_.1
       go_simp
       with_reducible rfl
      rotate_left
      ·simp only [ps_]
       rfl
      refine pure_ (i := 7) (N := (some 95)) (v := ?_) (a' := ?_) #[true, true, true, true, false, false, false, true, false, false, false, false, false, false, false, false, false] rfl rfl (any_of HT_.out (by kernel_rfl)) (fun _ _ _ h => h) (Or.inl ⟨by rfl, ?_⟩) ?_ ?_
      rotate_left
      ·intro w'
       go_simp
       with_reducible rfl
      rotate_left
      ·simp only [ps_]
       rfl
      refine take_ (i := 8) (N := (some 96)) (v := ?_) (a' := ?_) #[true, true, true, true, false, false, false, true, true, false, false, false, false, false, false, false, false] rfl rfl (take_of HT_.out (by kernel_rfl)) (fun _ _ _ h => h) (Or.inl ⟨by rfl, ?_⟩) hHeld ?_ ?_
      rotate_left
      ·intro w' hS_
       have hx_ := h11 w' hS_.1
       go_simp
       with_reducible rfl
      rotate_left
      ·simp only [ps_]
       rfl
      refine pure_ (i := 9) (N := (some 97)) (v := ?_) (a' := ?_) #[true, true, true, true, false, false, false, true, true, true, false, false, false, false, false, false, false] rfl rfl (any_of HT_.out (by kernel_rfl)) (fun _ _ _ h => h) (Or.inl ⟨by rfl, ?_⟩) ?_ ?_
      rotate_left
      ·intro w'
       go_simp
       with_reducible rfl
      rotate_left
      ·simp only [ps_]
       rfl
      refine join_ (σ := Nat) 5 #[true, true, true, true, true, true, true, true, true, true, true, true, false, false, false, false, false] (fun g2 => [(92, .string (Spn.nm (d 10))), (93, .string ((⟨#[107]⟩ : ByteArray) ++ Spn.nm (d 10))), (94, .slice (some ⟨g2, 0, none⟩) 3 3), (98, .pointer (some ⟨g2, k11, none⟩)), (99, .string (Spn.v3 k11))]) (fun g2 w' => Spn.St w D g #[.int .u64 x0, .int .u64 x1, .int .u64 x2, .int .u64 x3, .string x4, .int .i64 x5, .int .i64 x6, .bool x7, .slice Av 1 cv, .int .u64 (d 9 * 281474976710656 + 1)] w' ∧ Kd.R k36 36 w' w.heap.size (fun _ => True) (.slice Av 1 cv) [⟨⟨#[97]⟩, Spn.nm (d 11)⟩]) ?_ ?_
      rotate_left
      ·intro hCont
       refine two_ (i := 4) (j := 6) (Ni := some 92) (Nj := some 94) #[true, true, true, true, true, false, false, true, true, true, false, false, false, false, false, false, false] #[true, true, true, true, false, false, true, true, true, true, false, false, false, false, false, false, false] rfl rfl rfl rfl (two_of HT_.out (by kernel_rfl)) (by decide) (by decide) (fun K hK => ?_) (fun K hK => ?_)
       ·skip
        refine goes_ Try.func22 (by kernel_rfl) rfl #[.int .u8 (d 10)] (by rfl) rfl rfl (by (try simp only [List.map_toArray, List.map_cons, List.map_nil]); first | done | rfl) ?_
        refine (Spn.Name_calls _ _ _ (hnm 10 (by omega))).mono ?_
        rintro e w3 ⟨rfl, ⟨n3, hw3⟩⟩
        refine ⟨_, rfl, ?_⟩
        have hb3 := pw_below_drewN (Below.refl (World.heap w11).size w11) n3
        rw [← hw3] at hb3
        clear hw3
        refine hK.out _ _ ⟨hHeld.1.below hb3, Kd.R_below hHeld.2 hb3⟩ (fun hHeld => ?_)
        clear hK K
        refine norm_ (a' := ?_) ?_ ?_
        rotate_left
        ·show Act.put _ (some 92) _ = _
         simp only [ps_]
         rfl
        refine pure_ (i := 5) (N := (some 93)) (v := ?_) (a' := ?_) #[true, true, true, true, true, true, false, true, true, true, false, false, false, false, false, false, false] rfl rfl (any_of HT_.out (by kernel_rfl)) (fun _ _ _ h => h) (Or.inl ⟨by rfl, ?_⟩) ?_ ?_
        rotate_left
        ·intro w'
         go_simp
         with_reducible rfl
        rotate_left
        ·simp only [ps_]
         rfl
        refine one_ (i := 6) (N := (some 94)) #[true, true, true, true, true, true, true, true, true, true, false, false, false, false, false, false, false] rfl rfl (one_of HT_.out (by kernel_rfl)) (by decide) (fun K hK => ?_)
        refine value_ (w1 := ?_) (v := ?_) (by rfl) rfl ?_ ?_
        rotate_left 2
        ·go_simp
         constructor
         ·rfl
         ·rfl
        refine hK.out _ _ ⟨hHeld.1.below (below_alloc (Below.refl _ _) _), Kd.R_below hHeld.2 (below_alloc (Below.refl _ _) _)⟩ (fun hHeld => ?_)
        clear hK K
        refine norm_ (a' := ?_) ?_ ?_
        rotate_left
        ·show Act.put _ (some 94) _ = _
         simp only [ps_]
         rfl
        refine pure_ (i := 10) (N := (some 98)) (v := ?_) (a' := ?_) #[true, true, true, true, true, true, true, true, true, true, true, false, false, false, false, false, false] rfl rfl (any_of HT_.out (by kernel_rfl)) (fun _ _ _ h => h) (Or.inl ⟨by rfl, ?_⟩) ?_ ?_
        rotate_left
        ·intro w'
         go_simp
         with_reducible rfl
        rotate_left
        ·simp only [ps_]
         rfl
        refine one_ (i := 11) (N := (some 99)) #[true, true, true, true, true, true, true, true, true, true, true, true, false, false, false, false, false] rfl rfl (one_of HT_.out (by kernel_rfl)) (by decide) (fun K hK => ?_)
        have hx_ := Spn.three w3 9 k11 hk3 _ (Below.refl _ _)
        refine value_ (w1 := ?_) (v := ?_) (by rfl) rfl ?_ ?_
        rotate_left 2
        ·go_simp
         constructor
         ·rfl
         ·rfl
        refine hK.out _ _ hHeld (fun hHeld => ?_)
        clear hK K hx_
        refine norm_ (a' := ?_) ?_ ?_
        rotate_left
        ·show Act.put _ (some 99) _ = _
         simp only [ps_]
         rfl
        exact norm_ (by simp only [putAll, Act.put, List.setIfInBounds_toArray, List.set_cons_zero, List.set_cons_succ]) (hCont w3.heap.size _ hHeld)
       ·skip
        refine value_ (w1 := ?_) (v := ?_) (by rfl) rfl ?_ ?_
        rotate_left 2
        ·go_simp
         constructor
         ·rfl
         ·rfl
        refine hK.out _ _ ⟨hHeld.1.below (below_alloc (Below.refl _ _) _), Kd.R_below hHeld.2 (below_alloc (Below.refl _ _) _)⟩ (fun hHeld => ?_)
        clear hK K
        refine norm_ (a' := ?_) ?_ ?_
        rotate_left
        ·show Act.put _ (some 94) _ = _
         simp only [ps_]
         rfl
        refine pure_ (i := 10) (N := (some 98)) (v := ?_) (a' := ?_) #[true, true, true, true, false, false, true, true, true, true, true, false, false, false, false, false, false] rfl rfl (any_of HT_.out (by kernel_rfl)) (fun _ _ _ h => h) (Or.inl ⟨by rfl, ?_⟩) ?_ ?_
        rotate_left
        ·intro w'
         go_simp
         with_reducible rfl
        rotate_left
        ·simp only [ps_]
         rfl
        refine two_ (i := 4) (j := 11) (Ni := some 92) (Nj := some 99) #[true, true, true, true, true, false, true, true, true, true, true, false, false, false, false, false, false] #[true, true, true, true, false, false, true, true, true, true, true, true, false, false, false, false, false] rfl rfl rfl rfl (two_of HT_.out (by kernel_rfl)) (by decide) (by decide) (fun K hK => ?_) (fun K hK => ?_)
        ·skip
         refine goes_ Try.func22 (by kernel_rfl) rfl #[.int .u8 (d 10)] (by rfl) rfl rfl (by (try simp only [List.map_toArray, List.map_cons, List.map_nil]); first | done | rfl) ?_
         refine (Spn.Name_calls _ _ _ (hnm 10 (by omega))).mono ?_
         rintro e w3 ⟨rfl, ⟨n3, hw3⟩⟩
         refine ⟨_, rfl, ?_⟩
         have hb3 := pw_below_drewN (Below.refl (World.heap (w11.alloc (.cells #[.string ⟨#[]⟩, .string ⟨#[118]⟩, .string ⟨#[0, 32, 255]⟩] 9 (0, 0)))).size (w11.alloc (.cells #[.string ⟨#[]⟩, .string ⟨#[118]⟩, .string ⟨#[0, 32, 255]⟩] 9 (0, 0)))) n3
         rw [← hw3] at hb3
         clear hw3
         refine hK.out _ _ ⟨hHeld.1.below hb3, Kd.R_below hHeld.2 hb3⟩ (fun hHeld => ?_)
         clear hK K
         refine norm_ (a' := ?_) ?_ ?_
         rotate_left
         ·show Act.put _ (some 92) _ = _
          simp only [ps_]
          rfl
         refine pure_ (i := 5) (N := (some 93)) (v := ?_) (a' := ?_) #[true, true, true, true, true, true, true, true, true, true, true, false, false, false, false, false, false] rfl rfl (any_of HT_.out (by kernel_rfl)) (fun _ _ _ h => h) (Or.inl ⟨by rfl, ?_⟩) ?_ ?_
         rotate_left
         ·intro w'
          go_simp
          with_reducible rfl
         rotate_left
         ·simp only [ps_]
          rfl
         refine one_ (i := 11) (N := (some 99)) #[true, true, true, true, true, true, true, true, true, true, true, true, false, false, false, false, false] rfl rfl (one_of HT_.out (by kernel_rfl)) (by decide) (fun K hK => ?_)
         have hx_ := Spn.three w11 9 k11 hk3 _ hb3
         refine value_ (w1 := ?_) (v := ?_) (by rfl) rfl ?_ ?_
         rotate_left 2
         ·go_simp
          constructor
          ·rfl
          ·rfl
         refine hK.out _ _ hHeld (fun hHeld => ?_)
         clear hK K hx_
         refine norm_ (a' := ?_) ?_ ?_
         rotate_left
         ·show Act.put _ (some 99) _ = _
          simp only [ps_]
          rfl
         exact norm_ (by simp only [putAll, Act.put, List.setIfInBounds_toArray, List.set_cons_zero, List.set_cons_succ]) (hCont w11.heap.size _ hHeld)
        ·skip
         have hx_ := Spn.three w11 9 k11 hk3 _ (Below.refl _ _)
         refine value_ (w1 := ?_) (v := ?_) (by rfl) rfl ?_ ?_
         rotate_left 2
         ·go_simp
          constructor
          ·rfl
          ·rfl
         refine hK.out _ _ hHeld (fun hHeld => ?_)
         clear hK K hx_
         refine norm_ (a' := ?_) ?_ ?_
         rotate_left
         ·show Act.put _ (some 99) _ = _
          simp only [ps_]
          rfl
         refine one_ (i := 4) (N := (some 92)) #[true, true, true, true, true, false, true, true, true, true, true, true, false, false, false, false, false] rfl rfl (one_of HT_.out (by kernel_rfl)) (by decide) (fun K hK => ?_)
         refine goes_ Try.func22 (by kernel_rfl) rfl #[.int .u8 (d 10)] (by rfl) rfl rfl (by (try simp only [List.map_toArray, List.map_cons, List.map_nil]); first | done | rfl) ?_
         refine (Spn.Name_calls _ _ _ (hnm 10 (by omega))).mono ?_
         rintro e w3 ⟨rfl, ⟨n3, hw3⟩⟩
         refine ⟨_, rfl, ?_⟩
         have hb3 := pw_below_drewN (Below.refl (World.heap (w11.alloc (.cells #[.string ⟨#[]⟩, .string ⟨#[118]⟩, .string ⟨#[0, 32, 255]⟩] 9 (0, 0)))).size (w11.alloc (.cells #[.string ⟨#[]⟩, .string ⟨#[118]⟩, .string ⟨#[0, 32, 255]⟩] 9 (0, 0)))) n3
         rw [← hw3] at hb3
         clear hw3
         refine hK.out _ _ ⟨hHeld.1.below hb3, Kd.R_below hHeld.2 hb3⟩ (fun hHeld => ?_)
         clear hK K
         refine norm_ (a' := ?_) ?_ ?_
         rotate_left
         ·show Act.put _ (some 92) _ = _
          simp only [ps_]
          rfl
         refine pure_ (i := 5) (N := (some 93)) (v := ?_) (a' := ?_) #[true, true, true, true, true, true, true, true, true, true, true, true, false, false, false, false, false] rfl rfl (any_of HT_.out (by kernel_rfl)) (fun _ _ _ h => h) (Or.inl ⟨by rfl, ?_⟩) ?_ ?_
         rotate_left
         ·intro w'
          go_simp
          with_reducible rfl
         rotate_left
         ·simp only [ps_]
          rfl
         exact norm_ (by simp only [putAll, Act.put, List.setIfInBounds_toArray, List.set_cons_zero, List.set_cons_succ]) (hCont w11.heap.size _ hHeld)
      clear hHeld
      rintro g2 w12 hHeld
      refine norm_ (a' := ?_) ?_ ?_
      rotate_left
      ·simp only [putAll, Act.put, List.setIfInBounds_toArray, List.set_cons_zero, List.set_cons_succ]
       rfl
      refine pure_ (i := 12) (N := (some 100)) (v := ?_) (a' := ?_) #[true, true, true, true, true, true, true, true, true, true, true, true, true, false, false, false, false] rfl rfl (any_of HT_.out (by kernel_rfl)) (fun _ _ _ h => h) (Or.inl ⟨by rfl, ?_⟩) ?_ ?_
      rotate_left
      ·intro w'
       go_simp
       with_reducible rfl
      rotate_left
      ·simp only [ps_]
       rfl
      refine one_ (i := 13) (N := (some 101)) #[true, true, true, true, true, true, true, true, true, true, true, true, true, true, false, false, false] rfl rfl (one_of HT_.out (by kernel_rfl)) (by decide) (fun K hK => ?_)
      refine value_ (w1 := ?_) (v := ?_) (by rfl) rfl ?_ ?_
      rotate_left 2
      ·go_simp
       constructor
       ·rfl
       ·rfl
      refine hK.out _ _ ⟨hHeld.1.below (below_alloc (Below.refl _ _) _), Kd.R_below hHeld.2 (below_alloc (Below.refl _ _) _)⟩ (fun hHeld6 => ?_)
      clear hK K
      refine norm_ (a' := ?_) ?_ ?_
      rotate_left
      ·show Act.put _ (some 101) _ = _
       simp only [ps_]
       rfl
      refine last_ (i := 14) (N := (some 102)) #[true, true, true, true, true, true, true, true, true, true, true, true, true, true, true, false, false] rfl rfl (one_of HT_.out (by kernel_rfl)) (by decide) (fun K hK => ?_)
      refine Kd.R_append_step k36 (w0 := w) w.heap.size (by rfl) (.tmp 89) (.tmp 101) 24 36 (.agg #[(.string ⟨#[]⟩), (.string ⟨#[]⟩)]) 32 rfl Try.underlying24 Spn.info64 rfl (by decide) (by omega) (.slice Av 1 cv) [⟨⟨#[97]⟩, Spn.nm (d 11)⟩] (⟨(⟨#[107]⟩ : ByteArray) ++ Spn.nm (d 10), Spn.v3 k11⟩ : S36) [.string ((⟨#[107]⟩ : ByteArray) ++ Spn.nm (d 10)), .string (Spn.v3 k11)] (fun _ => True) (fun _ => False) rfl rfl ?aP (fun _ hk => hk.elim) ?aF ?aO ?aB ?aS ?aL ?_
      case aP => exact k36_mkM _ _ _ _
      case aF => exact fun _ _ => trivial
      case aO => exact hHeld.2
      case aB => exact hHeld.1.hB
      case aS => exact hHeld.1.hB.size
      case aL => simp
      intro v1 w13 hR1 hB9 hG9 hO9
      clear hHeld6
      have hHeld9 := hHeld.1.grown hG9 hB9 (Ne.symm (Kd.R_ne hHeld.2 hHeld.1.hR (by decide))) (Ne.symm (Kd.R_ne hHeld.2 hHeld.1.hD (by decide))) (Ne.symm (Kd.R_ne hHeld.2 hHeld.1.hS (by decide)))
      clear hHeld hG9 hO9 hB9
      obtain ⟨Bv, cw, hv1⟩ := Kd.R_slice hR1
      subst hv1
      simp only [List.cons_append, List.nil_append, List.length_cons, List.length_nil, Nat.zero_add, Nat.reduceAdd] at hR1
      refine hK.out _ _ ?_
      clear hK K
      have hHeld := hHeld9
      clear hHeld9
      refine norm_ (a' := ?_) ?_ ?_
      rotate_left
      ·show Act.put _ (some 102) _ = _
       simp only [ps_]
       rfl
      refine pure_ (i := 15) (N := (some 103)) (v := ?_) (a' := ?_) #[true, true, true, true, true, true, true, true, true, true, true, true, true, true, true, true, false] rfl rfl (any_of HT_.out (by kernel_rfl)) (fun _ _ _ h => h) (Or.inl ⟨by rfl, ?_⟩) ?_ ?_
      rotate_left
      ·intro w'
       go_simp
       with_reducible rfl
      rotate_left
      ·simp only [ps_]
       rfl
      refine last_ (i := 16) (N := none) #[true, true, true, true, true, true, true, true, true, true, true, true, true, true, true, true, true] rfl rfl (one_of HT_.out (by kernel_rfl)) (by decide) (fun K hK => ?_)
      have z8 := (blk_cell hHeld.hS 8).trans (rfl : (#[.int .u64 x0, .int .u64 x1, .int .u64 x2, .int .u64 x3, .string x4, .int .i64 x5, .int .i64 x6, .bool x7, .slice Av 1 cv, .int .u64 (d 9 * 281474976710656 + 1)] : Array Value)[8]? = some (.slice Av 1 cv))
      have fz8 := blk_frozen hHeld.hS 8
      refine skip_ (w1 := ?_) (by rfl) rfl ?_ ?_
      rotate_left
      ·go_simp
       rfl
      refine hK.out _ _ (done_ (done_of HT_.out (by kernel_rfl)) ?_)
      clear hK K z8 fz8
      have st14 : Spn.St w D g #[.int .u64 x0, .int .u64 x1, .int .u64 x2, .int .u64 x3, .string x4, .int .i64 x5, .int .i64 x6, .bool x7, .slice Bv 2 cw, .int .u64 (d 9 * 281474976710656 + 1)] (w13.setCell ⟨g, 8, none⟩ (.slice Bv 2 cw)) := by simpa using hHeld.set 8 (.slice Bv 2 cw)
      have hR14 := Kd.R_set hR1 hHeld.hS Spn.E64 8 (.slice Bv 2 cw)
      clear hR1 hHeld
      generalize (w13.setCell ⟨g, 8, none⟩ (.slice Bv 2 cw)) = W14 at st14 hR14 ⊢
      clear HT_ d10w h11 h10 h8s
      rw [hmk] at hat
      have y0 : W14.cell? ⟨g, 0, none⟩ = some (.int .u64 x0) := (blk_cell st14.hS 0).trans rfl
      have y1 : W14.cell? ⟨g, 1, none⟩ = some (.int .u64 x1) := (blk_cell st14.hS 1).trans rfl
      have y2 : W14.cell? ⟨g, 2, none⟩ = some (.int .u64 x2) := (blk_cell st14.hS 2).trans rfl
      have y3 : W14.cell? ⟨g, 3, none⟩ = some (.int .u64 x3) := (blk_cell st14.hS 3).trans rfl
      have y4 : W14.cell? ⟨g, 4, none⟩ = some (.string x4) := (blk_cell st14.hS 4).trans rfl
      have y5 : W14.cell? ⟨g, 5, none⟩ = some (.int .i64 x5) := (blk_cell st14.hS 5).trans rfl
      have y6 : W14.cell? ⟨g, 6, none⟩ = some (.int .i64 x6) := (blk_cell st14.hS 6).trans rfl
      have y7 : W14.cell? ⟨g, 7, none⟩ = some (.bool x7) := (blk_cell st14.hS 7).trans rfl
      have y8 : W14.cell? ⟨g, 8, none⟩ = some (.slice Bv 2 cw) := (blk_cell st14.hS 8).trans rfl
      have y9 : W14.cell? ⟨g, 9, none⟩ = some (.int .u64 (d 9 * 281474976710656 + 1)) := (blk_cell st14.hS 9).trans rfl
      have r0 : W14.cell? ⟨w.heap.size, 0, none⟩ = some (.int .u64 0) := (blk_cell st14.hR 0).trans rfl
      have e0 := blk_frozen st14.hR 0
      have r1 : W14.cell? ⟨w.heap.size, 1, none⟩ = some (.int .u64 0) := (blk_cell st14.hR 1).trans rfl
      have e1 := blk_frozen st14.hR 1
      have r2 : W14.cell? ⟨w.heap.size, 2, none⟩ = some (.int .u64 0) := (blk_cell st14.hR 2).trans rfl
      have e2 := blk_frozen st14.hR 2
      have r3 : W14.cell? ⟨w.heap.size, 3, none⟩ = some (.int .u64 0) := (blk_cell st14.hR 3).trans rfl
      have e3 := blk_frozen st14.hR 3
      have r4 : W14.cell? ⟨w.heap.size, 4, none⟩ = some (.string ⟨#[]⟩) := (blk_cell st14.hR 4).trans rfl
      have e4 := blk_frozen st14.hR 4
      have r5 : W14.cell? ⟨w.heap.size, 5, none⟩ = some (.int .i64 0) := (blk_cell st14.hR 5).trans rfl
      have e5 := blk_frozen st14.hR 5
      have r6 : W14.cell? ⟨w.heap.size, 6, none⟩ = some (.int .i64 0) := (blk_cell st14.hR 6).trans rfl
      have e6 := blk_frozen st14.hR 6
      have r7 : W14.cell? ⟨w.heap.size, 7, none⟩ = some (.bool false) := (blk_cell st14.hR 7).trans rfl
      have e7 := blk_frozen st14.hR 7
      have r8 : W14.cell? ⟨w.heap.size, 8, none⟩ = some (.slice none 0 0) := (blk_cell st14.hR 8).trans rfl
      have e8 := blk_frozen st14.hR 8
      have r9 : W14.cell? ⟨w.heap.size, 9, none⟩ = some (.int .u64 0) := (blk_cell st14.hR 9).trans rfl
      have e9 := blk_frozen st14.hR 9
      have d10' : W14.cell? ⟨w.heap.size + 1, 10, none⟩ = some (.int .u8 (d 10)) := (blk_cell st14.hD 10).trans (hDc 10 (by omega))
      clear hDc hd
      go_wp2
      have hres : Try.f10.results = #[.cell 2 26] := by kernel_rfl
      refine bodyPost_ret (v := .agg #[.int .u64 x0, .int .u64 x1, .int .u64 x2, .int .u64 x3, .string x4, .int .i64 x5, .int .i64 x6, .bool x7, .slice Bv 2 cw, .int .u64 (d 9 * 281474976710656 + 1)]) ?_ rfl (show Spn.Post d w _ _ from ⟨.slice Bv 2 cw, ?_, ?_, ?_⟩)
      ·simp only [results, hres]
       go_simp
      ·rw [hrv, ex0, ex1, ex2, ex3, ex4, ex6, ex5, ex7]
      ·rw [hat]
       exact Kd.R_mono (Kd.R_step (Kd.R_types hR14 st14.hR Spn.E64) (fun k hk _ => Spn.far10 _ _ k hk.2 _ _ _ _ _ _ _ _ _ _)) (fun _ _ => trivial)
      ·exact Spn.below10 w _ _ st14.hB (Nat.le_refl _) _ _ _ _ _ _ _ _ _ _
    ·have h8b : decide (d 8 > 200) = false := decide_eq_false h8
     have hrv : Spn.rv d = 0 := by rw [Spn.rv, if_neg h8]
     have st7 : Spn.St w D g #[.int .u64 x0, .int .u64 x1, .int .u64 x2, .int .u64 x3, .string x4, .int .i64 x5, .int .i64 x6, .bool x7, .slice none 0 0, .int .u64 0] W6 := st
     rcases q10 with q10 | q10 | q10
     ·have hat : Spn.attrs d = [] := by rw [Spn.attrs, if_pos q10]
      have y0 : W6.cell? ⟨g, 0, none⟩ = some (.int .u64 x0) := (blk_cell st7.hS 0).trans rfl
      have y1 : W6.cell? ⟨g, 1, none⟩ = some (.int .u64 x1) := (blk_cell st7.hS 1).trans rfl
      have y2 : W6.cell? ⟨g, 2, none⟩ = some (.int .u64 x2) := (blk_cell st7.hS 2).trans rfl
      have y3 : W6.cell? ⟨g, 3, none⟩ = some (.int .u64 x3) := (blk_cell st7.hS 3).trans rfl
      have y4 : W6.cell? ⟨g, 4, none⟩ = some (.string x4) := (blk_cell st7.hS 4).trans rfl
      have y5 : W6.cell? ⟨g, 5, none⟩ = some (.int .i64 x5) := (blk_cell st7.hS 5).trans rfl
      have y6 : W6.cell? ⟨g, 6, none⟩ = some (.int .i64 x6) := (blk_cell st7.hS 6).trans rfl
      have y7 : W6.cell? ⟨g, 7, none⟩ = some (.bool x7) := (blk_cell st7.hS 7).trans rfl
      have y8 : W6.cell? ⟨g, 8, none⟩ = some (.slice none 0 0) := (blk_cell st7.hS 8).trans rfl
      have y9 : W6.cell? ⟨g, 9, none⟩ = some (.int .u64 0) := (blk_cell st7.hS 9).trans rfl
      have r0 : W6.cell? ⟨w.heap.size, 0, none⟩ = some (.int .u64 0) := (blk_cell st7.hR 0).trans rfl
      have e0 := blk_frozen st7.hR 0
      have r1 : W6.cell? ⟨w.heap.size, 1, none⟩ = some (.int .u64 0) := (blk_cell st7.hR 1).trans rfl
      have e1 := blk_frozen st7.hR 1
      have r2 : W6.cell? ⟨w.heap.size, 2, none⟩ = some (.int .u64 0) := (blk_cell st7.hR 2).trans rfl
      have e2 := blk_frozen st7.hR 2
      have r3 : W6.cell? ⟨w.heap.size, 3, none⟩ = some (.int .u64 0) := (blk_cell st7.hR 3).trans rfl
      have e3 := blk_frozen st7.hR 3
      have r4 : W6.cell? ⟨w.heap.size, 4, none⟩ = some (.string ⟨#[]⟩) := (blk_cell st7.hR 4).trans rfl
      have e4 := blk_frozen st7.hR 4
      have r5 : W6.cell? ⟨w.heap.size, 5, none⟩ = some (.int .i64 0) := (blk_cell st7.hR 5).trans rfl
      have e5 := blk_frozen st7.hR 5
      have r6 : W6.cell? ⟨w.heap.size, 6, none⟩ = some (.int .i64 0) := (blk_cell st7.hR 6).trans rfl
      have e6 := blk_frozen st7.hR 6
      have r7 : W6.cell? ⟨w.heap.size, 7, none⟩ = some (.bool false) := (blk_cell st7.hR 7).trans rfl
      have e7 := blk_frozen st7.hR 7
      have r8 : W6.cell? ⟨w.heap.size, 8, none⟩ = some (.slice none 0 0) := (blk_cell st7.hR 8).trans rfl
      have e8 := blk_frozen st7.hR 8
      have r9 : W6.cell? ⟨w.heap.size, 9, none⟩ = some (.int .u64 0) := (blk_cell st7.hR 9).trans rfl
      have e9 := blk_frozen st7.hR 9
      have d10' : W6.cell? ⟨w.heap.size + 1, 10, none⟩ = some (.int .u8 (d 10)) := (blk_cell st7.hD 10).trans (hDc 10 (by omega))
      clear hDc hd
      go_wp2
      have hres : Try.f10.results = #[.cell 2 26] := by kernel_rfl
      refine bodyPost_ret (v := .agg #[.int .u64 x0, .int .u64 x1, .int .u64 x2, .int .u64 x3, .string x4, .int .i64 x5, .int .i64 x6, .bool x7, .slice none 0 0, .int .u64 0]) ?_ rfl (show Spn.Post d w _ _ from ⟨.slice none 0 0, ?_, ?_, ?_⟩)
      ·simp only [results, hres]
       go_simp
      ·rw [hrv, ex0, ex1, ex2, ex3, ex4, ex6, ex5, ex7]
      ·rw [hat]
       exact Kd.R_nil _ _ _ _ _
      ·exact Spn.below10 w _ _ st7.hB (Nat.le_refl _) _ _ _ _ _ _ _ _ _ _
     ·have hat : Spn.attrs d = [⟨⟨#[97]⟩, Spn.nm (d 11)⟩] := by rw [Spn.attrs, if_neg (by omega), if_pos q10]
      have h11 := fun (w' : World) (hS_ : Spn.St w D g #[.int .u64 x0, .int .u64 x1, .int .u64 x2, .int .u64 x3, .string x4, .int .i64 x5, .int .i64 x6, .bool x7, .slice none 0 0, .int .u64 0] w') => (blk_cell hS_.hD 11).trans (hDc 11 (by omega))
      have h8s := fun (w' : World) (hS_ : Spn.St w D g #[.int .u64 x0, .int .u64 x1, .int .u64 x2, .int .u64 x3, .string x4, .int .i64 x5, .int .i64 x6, .bool x7, .slice none 0 0, .int .u64 0] w') => (blk_cell hS_.hS 8).trans (rfl : (#[.int .u64 x0, .int .u64 x1, .int .u64 x2, .int .u64 x3, .string x4, .int .i64 x5, .int .i64 x6, .bool x7, .slice none 0 0, .int .u64 0] : Array Value)[8]? = some (.slice none 0 0))
      go_wp2
      refine start_ (n := 10) (S := fun w' => Spn.St w D g #[.int .u64 x0, .int .u64 x1, .int .u64 x2, .int .u64 x3, .string x4, .int .i64 x5, .int .i64 x6, .bool x7, .slice none 0 0, .int .u64 0] w') (ds := [9]) #[false, false, false, false, false, false, false, false, false, false] (by kernel_rfl) rfl rfl (st7.below (below_drew (Below.refl _ _))) (fun hHeld => ?_)
      refine with_tab Spn.tab10 (fun HT_ => ?_)
      generalize (World.drew W6) = w8 at hHeld ⊢
      refine pure_ (i := 0) (N := (some 75)) (v := ?_) (a' := ?_) #[true, false, false, false, false, false, false, false, false, false] rfl rfl (any_of HT_.out (by kernel_rfl)) (fun _ _ _ h => h) (Or.inl ⟨by rfl, ?_⟩) ?_ ?_
      rotate_left
      ·intro w'
       go_simp
       with_reducible rfl
      rotate_left
      ·simp only [ps_]
       rfl
      refine take_ (i := 1) (N := (some 76)) (v := ?_) (a' := ?_) #[true, true, false, false, false, false, false, false, false, false] rfl rfl (take_of HT_.out (by kernel_rfl)) (fun _ _ _ h => h) (Or.inl ⟨by rfl, ?_⟩) hHeld ?_ ?_
      rotate_left
      ·intro w' hS_
       have hx_ := h8s w' hS_
       go_simp
       with_reducible rfl
      rotate_left
      ·simp only [ps_]
       rfl
      refine pure_ (i := 2) (N := (some 77)) (v := ?_) (a' := ?_) #[true, true, true, false, false, false, false, false, false, false] rfl rfl (any_of HT_.out (by kernel_rfl)) (fun _ _ _ h => h) (Or.inl ⟨by rfl, ?_⟩) ?_ ?_
      rotate_left
      ·intro w'
       go_simp
       with_reducible rfl
      rotate_left
      ·simp only [ps_]
       rfl
      refine take_ (i := 3) (N := (some 78)) (v := ?_) (a' := ?_) #[true, true, true, true, false, false, false, false, false, false] rfl rfl (take_of HT_.out (by kernel_rfl)) (fun _ _ _ h => h) (Or.inl ⟨by rfl, ?_⟩) hHeld ?_ ?_
      rotate_left
      ·intro w' hS_
       have hx_ := h11 w' hS_
       go_simp
       with_reducible rfl
      rotate_left
      ·simp only [ps_]
       rfl
      refine one_ (i := 4) (N := (some 79)) #[true, true, true, true, true, false, false, false, false, false] rfl rfl (one_of HT_.out (by kernel_rfl)) (by decide) (fun K hK => ?_)
      refine goes_ Try.func22 (by kernel_rfl) rfl #[.int .u8 (d 11)] (by rfl) rfl rfl (by (try simp only [List.map_toArray, List.map_cons, List.map_nil]); first | done | rfl) ?_
      refine (Spn.Name_calls _ _ _ (hnm 11 (by omega))).mono ?_
      rintro e w3 ⟨rfl, ⟨n3, hw3⟩⟩
      refine ⟨_, rfl, ?_⟩
      have hHeld3 := hHeld.below (W' := w3) (by rw [hw3]; exact pw_below_drewN (Below.refl _ _) n3)
      clear hw3 hHeld
      refine hK.out _ _ hHeld3 (fun hHeld => ?_)
      clear hK K hHeld3
      refine norm_ (a' := ?_) ?_ ?_
      rotate_left
      ·show Act.put _ (some 79) _ = _
       simp only [ps_]
       rfl
      refine pure_ (i := 5) (N := (some 80)) (v := ?_) (a' := ?_) #[true, true, true, true, true, true, false, false, false, false] rfl rfl (any_of HT_.out (by kernel_rfl)) (fun _ _ _ h => h) (Or.inl ⟨by rfl, ?_⟩) ?_ ?_
      rotate_left
      ·intro w'
       go_simp
       with_reducible rfl
      rotate_left
      ·simp only [ps_]
       rfl
      refine one_ (i := 6) (N := (some 81)) #[true, true, true, true, true, true, true, false, false, false] rfl rfl (one_of HT_.out (by kernel_rfl)) (by decide) (fun K hK => ?_)
      refine value_ (w1 := ?_) (v := ?_) (by rfl) rfl ?_ ?_
      rotate_left 2
      ·go_simp
       constructor
       ·rfl
       ·rfl
      refine hK.out _ _ (hHeld.below (below_alloc (Below.refl _ _) _)) (fun hHeld6 => ?_)
      clear hK K
      refine norm_ (a' := ?_) ?_ ?_
      rotate_left
      ·show Act.put _ (some 81) _ = _
       simp only [ps_]
       rfl
      refine one_ (i := 7) (N := (some 82)) #[true, true, true, true, true, true, true, true, false, false] rfl rfl (one_of HT_.out (by kernel_rfl)) (by decide) (fun K hK => ?_)
      refine Kd.R_append_step k36 (w0 := w) w.heap.size (by rfl) (.tmp 76) (.tmp 81) 24 36 (.agg #[(.string ⟨#[]⟩), (.string ⟨#[]⟩)]) 32 rfl Try.underlying24 Spn.info64 rfl (by decide) (by omega) (.slice none 0 0) [] (⟨⟨#[97]⟩, Spn.nm (d 11)⟩ : S36) [.string ⟨#[97]⟩, .string (Spn.nm (d 11))] (fun _ => True) (fun _ => False) rfl rfl ?aP (fun _ hk => hk.elim) ?aF ?aO ?aB ?aS ?aL ?_
      case aP => exact k36_mkM _ _ _ _
      case aF => exact fun _ _ => trivial
      case aO => exact Kd.R_nil _ _ _ _ _
      case aB => exact hHeld.hB
      case aS => exact hHeld.hB.size
      case aL => simp
      intro v1 w9 hR1 hB9 hG9 hO9
      clear hHeld6
      have hHeld9 := hHeld.grown hG9 hB9 (by simp [Value.ownBlock]) (by simp [Value.ownBlock]) (by simp [Value.ownBlock])
      clear hHeld hG9 hO9 hB9
      obtain ⟨Av, cv, hv1⟩ := Kd.R_slice hR1
      subst hv1
      simp only [List.nil_append, List.length_singleton] at hR1
      refine hK.out _ _ hHeld9 (fun hHeld => ?_)
      clear hK K hHeld9
      refine norm_ (a' := ?_) ?_ ?_
      rotate_left
      ·show Act.put _ (some 82) _ = _
       simp only [ps_]
       rfl
      refine pure_ (i := 8) (N := (some 83)) (v := ?_) (a' := ?_) #[true, true, true, true, true, true, true, true, true, false] rfl rfl (any_of HT_.out (by kernel_rfl)) (fun _ _ _ h => h) (Or.inl ⟨by rfl, ?_⟩) ?_ ?_
      rotate_left
      ·intro w'
       go_simp
       with_reducible rfl
      rotate_left
      ·simp only [ps_]
       rfl
      refine last_ (i := 9) (N := none) #[true, true, true, true, true, true, true, true, true, true] rfl rfl (one_of HT_.out (by kernel_rfl)) (by decide) (fun K hK => ?_)
      have z8 := (blk_cell hHeld.hS 8).trans (rfl : (#[.int .u64 x0, .int .u64 x1, .int .u64 x2, .int .u64 x3, .string x4, .int .i64 x5, .int .i64 x6, .bool x7, .slice none 0 0, .int .u64 0] : Array Value)[8]? = some (.slice none 0 0))
      have fz8 := blk_frozen hHeld.hS 8
      refine skip_ (w1 := ?_) (by rfl) rfl ?_ ?_
      rotate_left
      ·go_simp
       rfl
      refine hK.out _ _ (done_ (done_of HT_.out (by kernel_rfl)) ?_)
      clear hK K z8 fz8
      have st10 : Spn.St w D g #[.int .u64 x0, .int .u64 x1, .int .u64 x2, .int .u64 x3, .string x4, .int .i64 x5, .int .i64 x6, .bool x7, .slice Av 1 cv, .int .u64 0] (w9.setCell ⟨g, 8, none⟩ (.slice Av 1 cv)) := by simpa using hHeld.set 8 (.slice Av 1 cv)
      have hR10 := Kd.R_set hR1 hHeld.hS Spn.E64 8 (.slice Av 1 cv)
      clear hR1 hHeld
      generalize (w9.setCell ⟨g, 8, none⟩ (.slice Av 1 cv)) = W10 at st10 hR10 ⊢
      clear HT_
      have y0 : W10.cell? ⟨g, 0, none⟩ = some (.int .u64 x0) := (blk_cell st10.hS 0).trans rfl
      have y1 : W10.cell? ⟨g, 1, none⟩ = some (.int .u64 x1) := (blk_cell st10.hS 1).trans rfl
      have y2 : W10.cell? ⟨g, 2, none⟩ = some (.int .u64 x2) := (blk_cell st10.hS 2).trans rfl
      have y3 : W10.cell? ⟨g, 3, none⟩ = some (.int .u64 x3) := (blk_cell st10.hS 3).trans rfl
      have y4 : W10.cell? ⟨g, 4, none⟩ = some (.string x4) := (blk_cell st10.hS 4).trans rfl
      have y5 : W10.cell? ⟨g, 5, none⟩ = some (.int .i64 x5) := (blk_cell st10.hS 5).trans rfl
      have y6 : W10.cell? ⟨g, 6, none⟩ = some (.int .i64 x6) := (blk_cell st10.hS 6).trans rfl
      have y7 : W10.cell? ⟨g, 7, none⟩ = some (.bool x7) := (blk_cell st10.hS 7).trans rfl
      have y8 : W10.cell? ⟨g, 8, none⟩ = some (.slice Av 1 cv) := (blk_cell st10.hS 8).trans rfl
      have y9 : W10.cell? ⟨g, 9, none⟩ = some (.int .u64 0) := (blk_cell st10.hS 9).trans rfl
      have r0 : W10.cell? ⟨w.heap.size, 0, none⟩ = some (.int .u64 0) := (blk_cell st10.hR 0).trans rfl
      have e0 := blk_frozen st10.hR 0
      have r1 : W10.cell? ⟨w.heap.size, 1, none⟩ = some (.int .u64 0) := (blk_cell st10.hR 1).trans rfl
      have e1 := blk_frozen st10.hR 1
      have r2 : W10.cell? ⟨w.heap.size, 2, none⟩ = some (.int .u64 0) := (blk_cell st10.hR 2).trans rfl
      have e2 := blk_frozen st10.hR 2
      have r3 : W10.cell? ⟨w.heap.size, 3, none⟩ = some (.int .u64 0) := (blk_cell st10.hR 3).trans rfl
      have e3 := blk_frozen st10.hR 3
      have r4 : W10.cell? ⟨w.heap.size, 4, none⟩ = some (.string ⟨#[]⟩) := (blk_cell st10.hR 4).trans rfl
      have e4 := blk_frozen st10.hR 4
      have r5 : W10.cell? ⟨w.heap.size, 5, none⟩ = some (.int .i64 0) := (blk_cell st10.hR 5).trans rfl
      have e5 := blk_frozen st10.hR 5
      have r6 : W10.cell? ⟨w.heap.size, 6, none⟩ = some (.int .i64 0) := (blk_cell st10.hR 6).trans rfl
      have e6 := blk_frozen st10.hR 6
      have r7 : W10.cell? ⟨w.heap.size, 7, none⟩ = some (.bool false) := (blk_cell st10.hR 7).trans rfl
      have e7 := blk_frozen st10.hR 7
      have r8 : W10.cell? ⟨w.heap.size, 8, none⟩ = some (.slice none 0 0) := (blk_cell st10.hR 8).trans rfl
      have e8 := blk_frozen st10.hR 8
      have r9 : W10.cell? ⟨w.heap.size, 9, none⟩ = some (.int .u64 0) := (blk_cell st10.hR 9).trans rfl
      have e9 := blk_frozen st10.hR 9
      have d10' : W10.cell? ⟨w.heap.size + 1, 10, none⟩ = some (.int .u8 (d 10)) := (blk_cell st10.hD 10).trans (hDc 10 (by omega))
      clear hDc hd
      go_wp2
      have hres : Try.f10.results = #[.cell 2 26] := by kernel_rfl
      refine bodyPost_ret (v := .agg #[.int .u64 x0, .int .u64 x1, .int .u64 x2, .int .u64 x3, .string x4, .int .i64 x5, .int .i64 x6, .bool x7, .slice Av 1 cv, .int .u64 0]) ?_ rfl (show Spn.Post d w _ _ from ⟨.slice Av 1 cv, ?_, ?_, ?_⟩)
      ·simp only [results, hres]
       go_simp
      ·rw [hrv, ex0, ex1, ex2, ex3, ex4, ex6, ex5, ex7]
      ·rw [hat]
       exact Kd.R_mono (Kd.R_step (Kd.R_types hR10 st10.hR Spn.E64) (fun k hk _ => Spn.far10 _ _ k hk.2 _ _ _ _ _ _ _ _ _ _)) (fun _ _ => trivial)
      ·exact Spn.below10 w _ _ st10.hB (Nat.le_refl _) _ _ _ _ _ _ _ _ _ _
     ·have hat : Spn.attrs d = [⟨⟨#[97]⟩, Spn.nm (d 11)⟩, ⟨(⟨#[107]⟩ : ByteArray) ++ Spn.nm (d 10), Spn.v3 (Int.tmod (d 11) 3).toNat⟩] := by rw [Spn.attrs, if_neg (by omega), if_neg (by omega)]
      have h11 := fun (w' : World) (hS_ : Spn.St w D g #[.int .u64 x0, .int .u64 x1, .int .u64 x2, .int .u64 x3, .string x4, .int .i64 x5, .int .i64 x6, .bool x7, .slice none 0 0, .int .u64 0] w') => (blk_cell hS_.hD 11).trans (hDc 11 (by omega))
      have h8s := fun (w' : World) (hS_ : Spn.St w D g #[.int .u64 x0, .int .u64 x1, .int .u64 x2, .int .u64 x3, .string x4, .int .i64 x5, .int .i64 x6, .bool x7, .slice none 0 0, .int .u64 0] w') => (blk_cell hS_.hS 8).trans (rfl : (#[.int .u64 x0, .int .u64 x1, .int .u64 x2, .int .u64 x3, .string x4, .int .i64 x5, .int .i64 x6, .bool x7, .slice none 0 0, .int .u64 0] : Array Value)[8]? = some (.slice none 0 0))
      go_wp2
      refine start_ (n := 10) (S := fun w' => Spn.St w D g #[.int .u64 x0, .int .u64 x1, .int .u64 x2, .int .u64 x3, .string x4, .int .i64 x5, .int .i64 x6, .bool x7, .slice none 0 0, .int .u64 0] w') (ds := [9]) #[false, false, false, false, false, false, false, false, false, false] (by kernel_rfl) rfl rfl (st7.below (below_drew (Below.refl _ _))) (fun hHeld => ?_)
      refine with_tab Spn.tab10 (fun HT_ => ?_)
      generalize (World.drew W6) = w8 at hHeld ⊢
      refine pure_ (i := 0) (N := (some 75)) (v := ?_) (a' := ?_) #[true, false, false, false, false, false, false, false, false, false] rfl rfl (any_of HT_.out (by kernel_rfl)) (fun _ _ _ h => h) (Or.inl ⟨by rfl, ?_⟩) ?_ ?_
      rotate_left
      ·intro w'
       go_simp
       with_reducible rfl
      rotate_left
      ·simp only [ps_]
       rfl
      refine take_ (i := 1) (N := (some 76)) (v := ?_) (a' := ?_) #[true, true, false, false, false, false, false, false, false, false] rfl rfl (take_of HT_.out (by kernel_rfl)) (fun _ _ _ h => h) (Or.inl ⟨by rfl, ?_⟩) hHeld ?_ ?_
      rotate_left
      ·intro w' hS_
       have hx_ := h8s w' hS_
       go_simp
       with_reducible rfl
      rotate_left
      ·simp only [ps_]
       rfl
      refine pure_ (i := 2) (N := (some 77)) (v := ?_) (a' := ?_) #[true, true, true, false, false, false, false, false, false, false] rfl rfl (any_of HT_.out (by kernel_rfl)) (fun _ _ _ h => h) (Or.inl ⟨by rfl, ?_⟩) ?_ ?_
      rotate_left
      ·intro w'
       go_simp
       with_reducible rfl
      rotate_left
      ·simp only [ps_]
       rfl
      refine take_ (i := 3) (N := (some 78)) (v := ?_) (a' := ?_) #[true, true, true, true, false, false, false, false, false, false] rfl rfl (take_of HT_.out (by kernel_rfl)) (fun _ _ _ h => h) (Or.inl ⟨by rfl, ?_⟩) hHeld ?_ ?_
      rotate_left
      ·intro w' hS_
       have hx_ := h11 w' hS_
       go_simp
       with_reducible rfl
      rotate_left
      ·simp only [ps_]
       rfl
      refine one_ (i := 4) (N := (some 79)) #[true, true, true, true, true, false, false, false, false, false] rfl rfl (one_of HT_.out (by kernel_rfl)) (by decide) (fun K hK => ?_)
      refine goes_ Try.func22 (by kernel_rfl) rfl #[.int .u8 (d 11)] (by rfl) rfl rfl (by (try simp only [List.map_toArray, List.map_cons, List.map_nil]); first | done | rfl) ?_
      refine (Spn.Name_calls _ _ _ (hnm 11 (by omega))).mono ?_
      rintro e w3 ⟨rfl, ⟨n3, hw3⟩⟩
      refine ⟨_, rfl, ?_⟩
      have hHeld3 := hHeld.below (W' := w3) (by rw [hw3]; exact pw_below_drewN (Below.refl _ _) n3)
      clear hw3 hHeld
      refine hK.out _ _ hHeld3 (fun hHeld => ?_)
      clear hK K hHeld3
      refine norm_ (a' := ?_) ?_ ?_
      rotate_left
      ·show Act.put _ (some 79) _ = _
       simp only [ps_]
       rfl
      refine pure_ (i := 5) (N := (some 80)) (v := ?_) (a' := ?_) #[true, true, true, true, true, true, false, false, false, false] rfl rfl (any_of HT_.out (by kernel_rfl)) (fun _ _ _ h => h) (Or.inl ⟨by rfl, ?_⟩) ?_ ?_
      rotate_left
      ·intro w'
       go_simp
       with_reducible rfl
      rotate_left
      ·simp only [ps_]
       rfl
      refine one_ (i := 6) (N := (some 81)) #[true, true, true, true, true, true, true, false, false, false] rfl rfl (one_of HT_.out (by kernel_rfl)) (by decide) (fun K hK => ?_)
      refine value_ (w1 := ?_) (v := ?_) (by rfl) rfl ?_ ?_
      rotate_left 2
      ·go_simp
       constructor
       ·rfl
       ·rfl
      refine hK.out _ _ (hHeld.below (below_alloc (Below.refl _ _) _)) (fun hHeld6 => ?_)
      clear hK K
      refine norm_ (a' := ?_) ?_ ?_
      rotate_left
      ·show Act.put _ (some 81) _ = _
       simp only [ps_]
       rfl
      refine one_ (i := 7) (N := (some 82)) #[true, true, true, true, true, true, true, true, false, false] rfl rfl (one_of HT_.out (by kernel_rfl)) (by decide) (fun K hK => ?_)
      refine Kd.R_append_step k36 (w0 := w) w.heap.size (by rfl) (.tmp 76) (.tmp 81) 24 36 (.agg #[(.string ⟨#[]⟩), (.string ⟨#[]⟩)]) 32 rfl Try.underlying24 Spn.info64 rfl (by decide) (by omega) (.slice none 0 0) [] (⟨⟨#[97]⟩, Spn.nm (d 11)⟩ : S36) [.string ⟨#[97]⟩, .string (Spn.nm (d 11))] (fun _ => True) (fun _ => False) rfl rfl ?aP (fun _ hk => hk.elim) ?aF ?aO ?aB ?aS ?aL ?_
      case aP => exact k36_mkM _ _ _ _
      case aF => exact fun _ _ => trivial
      case aO => exact Kd.R_nil _ _ _ _ _
      case aB => exact hHeld.hB
      case aS => exact hHeld.hB.size
      case aL => simp
      intro v1 w9 hR1 hB9 hG9 hO9
      clear hHeld6
      have hHeld9 := hHeld.grown hG9 hB9 (by simp [Value.ownBlock]) (by simp [Value.ownBlock]) (by simp [Value.ownBlock])
      clear hHeld hG9 hO9 hB9
      obtain ⟨Av, cv, hv1⟩ := Kd.R_slice hR1
      subst hv1
      simp only [List.nil_append, List.length_singleton] at hR1
      refine hK.out _ _ hHeld9 (fun hHeld => ?_)
      clear hK K hHeld9
      refine norm_ (a' := ?_) ?_ ?_
      rotate_left
      ·show Act.put _ (some 82) _ = _
       simp only [ps_]
       rfl
      refine pure_ (i := 8) (N := (some 83)) (v := ?_) (a' := ?_) #[true, true, true, true, true, true, true, true, true, false] rfl rfl (any_of HT_.out (by kernel_rfl)) (fun _ _ _ h => h) (Or.inl ⟨by rfl, ?_⟩) ?_ ?_
      rotate_left
      ·intro w'
       go_simp
       with_reducible rfl
      rotate_left
      ·simp only [ps_]
       rfl
      refine last_ (i := 9) (N := none) #[true, true, true, true, true, true, true, true, true, true] rfl rfl (one_of HT_.out (by kernel_rfl)) (by decide) (fun K hK => ?_)
      have z8 := (blk_cell hHeld.hS 8).trans (rfl : (#[.int .u64 x0, .int .u64 x1, .int .u64 x2, .int .u64 x3, .string x4, .int .i64 x5, .int .i64 x6, .bool x7, .slice none 0 0, .int .u64 0] : Array Value)[8]? = some (.slice none 0 0))
      have fz8 := blk_frozen hHeld.hS 8
      refine skip_ (w1 := ?_) (by rfl) rfl ?_ ?_
      rotate_left
      ·go_simp
       rfl
      refine hK.out _ _ (done_ (done_of HT_.out (by kernel_rfl)) ?_)
      clear hK K z8 fz8
      have st10 : Spn.St w D g #[.int .u64 x0, .int .u64 x1, .int .u64 x2, .int .u64 x3, .string x4, .int .i64 x5, .int .i64 x6, .bool x7, .slice Av 1 cv, .int .u64 0] (w9.setCell ⟨g, 8, none⟩ (.slice Av 1 cv)) := by simpa using hHeld.set 8 (.slice Av 1 cv)
      have hR10 := Kd.R_set hR1 hHeld.hS Spn.E64 8 (.slice Av 1 cv)
      clear hR1 hHeld
      generalize (w9.setCell ⟨g, 8, none⟩ (.slice Av 1 cv)) = W10 at st10 hR10 ⊢
      clear HT_
      have d10w : W10.cell? ⟨w.heap.size + 1, 10, none⟩ = some (.int .u8 (d 10)) := (blk_cell st10.hD 10).trans (hDc 10 (by omega))
      clear h11 h8s
      obtain ⟨k11, hk11, hk3⟩ : ∃ k : Nat, Int.tmod (d 11) 3 = (k : Int) ∧ k < 3 := by
       have : Int.tmod (d 11) 3 = d 11 % 3 := Int.tmod_eq_emod_of_nonneg hd11.1
       exact ⟨(Int.tmod (d 11) 3).toNat, by omega, by omega⟩
      have hm0 : 0 ≤ Int.tmod (d 11) 3 := by omega
      have hm3 : Int.tmod (d 11) 3 < 3 := by omega
      have hmk : (Int.tmod (d 11) 3).toNat = k11 := by omega
      have hk3i : (k11 : Int) < 3 := by omega
      have hnsz : ¬ 9223372036854775807 < 1 + (Spn.nm (d 10)).size := by have := Spn.nm_size (d 10); omega
      have h11 := fun (w' : World) (hS_ : Spn.St w D g #[.int .u64 x0, .int .u64 x1, .int .u64 x2, .int .u64 x3, .string x4, .int .i64 x5, .int .i64 x6, .bool x7, .slice Av 1 cv, .int .u64 0] w') => (blk_cell hS_.hD 11).trans (hDc 11 (by omega))
      have h10 := fun (w' : World) (hS_ : Spn.St w D g #[.int .u64 x0, .int .u64 x1, .int .u64 x2, .int .u64 x3, .string x4, .int .i64 x5, .int .i64 x6, .bool x7, .slice Av 1 cv, .int .u64 0] w') => (blk_cell hS_.hD 10).trans (hDc 10 (by omega))
      have h8s := fun (w' : World) (hS_ : Spn.St w D g #[.int .u64 x0, .int .u64 x1, .int .u64 x2, .int .u64 x3, .string x4, .int .i64 x5, .int .i64 x6, .bool x7, .slice Av 1 cv, .int .u64 0] w') => (blk_cell hS_.hS 8).trans (rfl : (#[.int .u64 x0, .int .u64 x1, .int .u64 x2, .int .u64 x3, .string x4, .int .i64 x5, .int .i64 x6, .bool x7, .slice Av 1 cv, .int .u64 0] : Array Value)[8]? = some (.slice Av 1 cv))
      go_wp2
      refine start_ (n := 17) (S := fun w' => Spn.St w D g #[.int .u64 x0, .int .u64 x1, .int .u64 x2, .int .u64 x3, .string x4, .int .i64 x5, .int .i64 x6, .bool x7, .slice Av 1 cv, .int .u64 0] w' ∧ Kd.R k36 36 w' w.heap.size (fun _ => True) (.slice Av 1 cv) [⟨⟨#[97]⟩, Spn.nm (d 11)⟩]) (ds := [14, 16]) #[false, false, false, false, false, false, false, false, false, false, false, false, false, false, false, false, false] (by kernel_rfl) rfl rfl ⟨st10.below (below_drew (Below.refl _ _)), Kd.R_below hR10 (below_drew (Below.refl _ _))⟩ (fun hHeld => ?_)
      refine with_tab Spn.tab12 (fun HT_ => ?_)
      generalize (World.drew W10) = w11 at hHeld ⊢
      clear st10 hR10
      refine pure_ (i := 0) (N := (some 88)) (v := ?_) (a' := ?_) #[true, false, false, false, false, false, false, false, false, false, false, false, false, false, false, false, false] rfl rfl (any_of HT_.out (by kernel_rfl)) (fun _ _ _ h => h) (Or.inl ⟨by rfl, ?_⟩) ?_ ?_
      rotate_left
      ·intro w'
       go_simp
       with_reducible rfl
      rotate_left
      ·simp only [ps_]
       rfl
      refine take_ (i := 1) (N := (some 89)) (v := ?_) (a' := ?_) #[true, true, false, false, false, false, false, false, false, false, false, false, false, false, false, false, false] rfl rfl (take_of HT_.out (by kernel_rfl)) (fun _ _ _ h => h) (Or.inl ⟨by rfl, ?_⟩) hHeld ?_ ?_
      rotate_left
      ·intro w' hS_
       have hx_ := h8s w' hS_.1
       go_simp
       with_reducible rfl
      rotate_left
      ·simp only [ps_]
       rfl
      refine pure_ (i := 2) (N := (some 90)) (v := ?_) (a' := ?_) #[true, true, true, false, false, false, false, false, false, false, false, false, false, false, false, false, false] rfl rfl (any_of HT_.out (by kernel_rfl)) (fun _ _ _ h => h) (Or.inl ⟨by rfl, ?_⟩) ?_ ?_
      rotate_left
      ·intro w'
       go_simp
       with_reducible rfl
      rotate_left
      ·simp only [ps_]
       rfl
      refine take_ (i := 3) (N := (some 91)) (v := ?_) (a' := ?_) #[true, true, true, true, false, false, false, false, false, false, false, false, false, false, false, false, false] rfl rfl (take_of HT_.out (by kernel_rfl)) (fun _ _ _ h => h) (Or.inl ⟨by rfl, ?_⟩) hHeld ?_ ?_
      rotate_left
      ·intro w' hS_
       have hx_ := h10 w' hS_.1
       go_simp
       with_reducible rfl
      rotate_left
      ·simp only [ps_]
       rfl
      refine pure_ (i := 7) (N := (some 95)) (v := ?_) (a' := ?_) #[true, true, true, true, false, false, false, true, false, false, false, false, false, false, false, false, false] rfl rfl (any_of HT_.out (by kernel_rfl)) (fun _ _ _ h => h) (Or.inl ⟨by rfl, ?_⟩) ?_ ?_
      rotate_left
      ·intro w'
       go_simp
       with_reducible rfl
      rotate_left
      ·simp only [ps_]
       rfl
      refine take_ (i := 8) (N := (some 96)) (v := ?_) (a' := ?_) #[true, true, true, true, false, false, false, true, true, false, false, false, false, false, false, false, false] rfl rfl (take_of HT_.out (by kernel_rfl)) (fun _ _ _ h => h) (Or.inl ⟨by rfl, ?_⟩) hHeld ?_ ?_
      rotate_left
      ·intro w' hS_
       have hx_ := h11 w' hS_.1
       go_simp
       with_reducible rfl
      rotate_left
      ·simp only [ps_]
       rfl
      refine pure_ (i := 9) (N := (some 97)) (v := ?_) (a' := ?_) #[true, true, true, true, false, false, false, true, true, true, false, false, false, false, false, false, false] rfl rfl (any_of HT_.out (by kernel_rfl)) (fun _ _ _ h => h) (Or.inl ⟨by rfl, ?_⟩) ?_ ?_
      rotate_left
      ·intro w'
       go_simp
       with_reducible rfl
      rotate_left
      ·simp only [ps_]
       rfl
      refine join_ (σ := Nat) 5 #[true, true, true, true, true, true, true, true, true, true, true, true, false, false, false, false, false] (fun g2 => [(92, .string (Spn.nm (d 10))), (93, .string ((⟨#[107]⟩ : ByteArray) ++ Spn.nm (d 10))), (94, .slice (some ⟨g2, 0, none⟩) 3 3), (98, .pointer (some ⟨g2, k11, none⟩)), (99, .string (Spn.v3 k11))]) (fun g2 w' => Spn.St w D g #[.int .u64 x0, .int .u64 x1, .int .u64 x2, .int .u64 x3, .string x4, .int .i64 x5, .int .i64 x6, .bool x7, .slice Av 1 cv, .int .u64 0] w' ∧ Kd.R k36 36 w' w.heap.size (fun _ => True) (.slice Av 1 cv) [⟨⟨#[97]⟩, Spn.nm (d 11)⟩]) ?_ ?_
      rotate_left
      ·intro hCont
       refine two_ (i := 4) (j := 6) (Ni := some 92) (Nj := some 94) #[true, true, true, true, true, false, false, true, true, true, false, false, false, false, false, false, false] #[true, true, true, true, false, false, true, true, true, true, false, false, false, false, false, false, false] rfl rfl rfl rfl (two_of HT_.out (by kernel_rfl)) (by decide) (by decide) (fun K hK => ?_) (fun K hK => ?_)
       ·skip
        refine goes_ Try.func22 (by kernel_rfl) rfl #[.int .u8 (d 10)] (by rfl) rfl rfl (by (try simp only [List.map_toArray, List.map_cons, List.map_nil]); first | done | rfl) ?_
        refine (Spn.Name_calls _ _ _ (hnm 10 (by omega))).mono ?_
        rintro e w3 ⟨rfl, ⟨n3, hw3⟩⟩
        refine ⟨_, rfl, ?_⟩
        have hb3 := pw_below_drewN (Below.refl (World.heap w11).size w11) n3
        rw [← hw3] at hb3
        clear hw3
        refine hK.out _ _ ⟨hHeld.1.below hb3, Kd.R_below hHeld.2 hb3⟩ (fun hHeld => ?_)
        clear hK K
        refine norm_ (a' := ?_) ?_ ?_
        rotate_left
        ·show Act.put _ (some 92) _ = _
         simp only [ps_]
         rfl
        refine pure_ (i := 5) (N := (some 93)) (v := ?_) (a' := ?_) #[true, true, true, true, true, true, false, true, true, true, false, false, false, false, false, false, false] rfl rfl (any_of HT_.out (by kernel_rfl)) (fun _ _ _ h => h) (Or.inl ⟨by rfl, ?_⟩) ?_ ?_
        rotate_left
        ·intro w'
         go_simp
         with_reducible rfl
        rotate_left
        ·simp only [ps_]
         rfl
        refine one_ (i := 6) (N := (some 94)) #[true, true, true, true, true, true, true, true, true, true, false, false, false, false, false, false, false] rfl rfl (one_of HT_.out (by kernel_rfl)) (by decide) (fun K hK => ?_)
        refine value_ (w1 := ?_) (v := ?_) (by rfl) rfl ?_ ?_
        rotate_left 2
        ·go_simp
         constructor
         ·rfl
         ·rfl
        refine hK.out _ _ ⟨hHeld.1.below (below_alloc (Below.refl _ _) _), Kd.R_below hHeld.2 (below_alloc (Below.refl _ _) _)⟩ (fun hHeld => ?_)
        clear hK K
        refine norm_ (a' := ?_) ?_ ?_
        rotate_left
        ·show Act.put _ (some 94) _ = _
         simp only [ps_]
         rfl
        refine pure_ (i := 10) (N := (some 98)) (v := ?_) (a' := ?_) #[true, true, true, true, true, true, true, true, true, true, true, false, false, false, false, false, false] rfl rfl (any_of HT_.out (by kernel_rfl)) (fun _ _ _ h => h) (Or.inl ⟨by rfl, ?_⟩) ?_ ?_
        rotate_left
        ·intro w'
         go_simp
         with_reducible rfl
        rotate_left
        ·simp only [ps_]
         rfl
        refine one_ (i := 11) (N := (some 99)) #[true, true, true, true, true, true, true, true, true, true, true, true, false, false, false, false, false] rfl rfl (one_of HT_.out (by kernel_rfl)) (by decide) (fun K hK => ?_)
        have hx_ := Spn.three w3 9 k11 hk3 _ (Below.refl _ _)
        refine value_ (w1 := ?_) (v := ?_) (by rfl) rfl ?_ ?_
        rotate_left 2
        ·go_simp
         constructor
         ·rfl
         ·rfl
        refine hK.out _ _ hHeld (fun hHeld => ?_)
        clear hK K hx_
        refine norm_ (a' := ?_) ?_ ?_
        rotate_left
        ·show Act.put _ (some 99) _ = _
         simp only [ps_]
         rfl
        exact norm_ (by simp only [putAll, Act.put, List.setIfInBounds_toArray, List.set_cons_zero, List.set_cons_succ]) (hCont w3.heap.size _ hHeld)
       ·skip
        refine value_ (w1 := ?_) (v := ?_) (by rfl) rfl ?_ ?_
        rotate_left 2
        ·go_simp
         constructor
         ·rfl
         ·rfl
        refine hK.out _ _ ⟨hHeld.1.below (below_alloc (Below.refl _ _) _), Kd.R_below hHeld.2 (below_alloc (Below.refl _ _) _)⟩ (fun hHeld => ?_)
        clear hK K
        refine norm_ (a' := ?_) ?_ ?_
        rotate_left
        ·show Act.put _ (some 94) _ = _
         simp only [ps_]
         rfl
        refine pure_ (i := 10) (N := (some 98)) (v := ?_) (a' := ?_) #[true, true, true, true, false, false, true, true, true, true, true, false, false, false, false, false, false] rfl rfl (any_of HT_.out (by kernel_rfl)) (fun _ _ _ h => h) (Or.inl ⟨by rfl, ?_⟩) ?_ ?_
        rotate_left
        ·intro w'
         go_simp
         with_reducible rfl
        rotate_left
        ·simp only [ps_]
         rfl
        refine two_ (i := 4) (j := 11) (Ni := some 92) (Nj := some 99) #[true, true, true, true, true, false, true, true, true, true, true, false, false, false, false, false, false] #[true, true, true, true, false, false, true, true, true, true, true, true, false, false, false, false, false] rfl rfl rfl rfl (two_of HT_.out (by kernel_rfl)) (by decide) (by decide) (fun K hK => ?_) (fun K hK => ?_)
        ·skip
         refine goes_ Try.func22 (by kernel_rfl) rfl #[.int .u8 (d 10)] (by rfl) rfl rfl (by (try simp only [List.map_toArray, List.map_cons, List.map_nil]); first | done | rfl) ?_
         refine (Spn.Name_calls _ _ _ (hnm 10 (by omega))).mono ?_
         rintro e w3 ⟨rfl, ⟨n3, hw3⟩⟩
         refine ⟨_, rfl, ?_⟩
         have hb3 := pw_below_drewN (Below.refl (World.heap (w11.alloc (.cells #[.string ⟨#[]⟩, .string ⟨#[118]⟩, .string ⟨#[0, 32, 255]⟩] 9 (0, 0)))).size (w11.alloc (.cells #[.string ⟨#[]⟩, .string ⟨#[118]⟩, .string ⟨#[0, 32, 255]⟩] 9 (0, 0)))) n3
         rw [← hw3] at hb3
         clear hw3
         refine hK.out _ _ ⟨hHeld.1.below hb3, Kd.R_below hHeld.2 hb3⟩ (fun hHeld => ?_)
         clear hK K
         refine norm_ (a' := ?_) ?_ ?_
         rotate_left
         ·show Act.put _ (some 92) _ = _
          simp only [ps_]
          rfl
         refine pure_ (i := 5) (N := (some 93)) (v := ?_) (a' := ?_) #[true, true, true, true, true, true, true, true, true, true, true, false, false, false, false, false, false] rfl rfl (any_of HT_.out (by kernel_rfl)) (fun _ _ _ h => h) (Or.inl ⟨by rfl, ?_⟩) ?_ ?_
         rotate_left
         ·intro w'
          go_simp
          with_reducible rfl
         rotate_left
         ·simp only [ps_]
          rfl
         refine one_ (i := 11) (N := (some 99)) #[true, true, true, true, true, true, true, true, true, true, true, true, false, false, false, false, false] rfl rfl (one_of HT_.out (by kernel_rfl)) (by decide) (fun K hK => ?_)
         have hx_ := Spn.three w11 9 k11 hk3 _ hb3
         refine value_ (w1 := ?_) (v := ?_) (by rfl) rfl ?_ ?_
         rotate_left 2
         ·go_simp
          constructor
          ·rfl
          ·rfl
         refine hK.out _ _ hHeld (fun hHeld => ?_)
         clear hK K hx_
         refine norm_ (a' := ?_) ?_ ?_
         rotate_left
         ·show Act.put _ (some 99) _ = _
          simp only [ps_]
          rfl
         exact norm_ (by simp only [putAll, Act.put, List.setIfInBounds_toArray, List.set_cons_zero, List.set_cons_succ]) (hCont w11.heap.size _ hHeld)
        ·skip
         have hx_ := Spn.three w11 9 k11 hk3 _ (Below.refl _ _)
         refine value_ (w1 := ?_) (v := ?_) (by rfl) rfl ?_ ?_
         rotate_left 2
         ·go_simp
          constructor
          ·rfl
          ·rfl
         refine hK.out _ _ hHeld (fun hHeld => ?_)
         clear hK K hx_
         refine norm_ (a' := ?_) ?_ ?_
         rotate_left
         ·show Act.put _ (some 99) _ = _
          simp only [ps_]
          rfl
         refine one_ (i := 4) (N := (some 92)) #[true, true, true, true, true, false, true, true, true, true, true, true, false, false, false, false, false] rfl rfl (one_of HT_.out (by kernel_rfl)) (by decide) (fun K hK => ?_)
         refine goes_ Try.func22 (by kernel_rfl) rfl #[.int .u8 (d 10)] (by rfl) rfl rfl (by (try simp only [List.map_toArray, List.map_cons, List.map_nil]); first | done | rfl) ?_
         refine (Spn.Name_calls _ _ _ (hnm 10 (by omega))).mono ?_
         rintro e w3 ⟨rfl, ⟨n3, hw3⟩⟩
         refine ⟨_, rfl, ?_⟩
         have hb3 := pw_below_drewN (Below.refl (World.heap (w11.alloc (.cells #[.string ⟨#[]⟩, .string ⟨#[118]⟩, .string ⟨#[0, 32, 255]⟩] 9 (0, 0)))).size (w11.alloc (.cells #[.string ⟨#[]⟩, .string ⟨#[118]⟩, .string ⟨#[0, 32, 255]⟩] 9 (0, 0)))) n3
         rw [← hw3] at hb3
         clear hw3
         refine hK.out _ _ ⟨hHeld.1.below hb3, Kd.R_below hHeld.2 hb3⟩ (fun hHeld => ?_)
         clear hK K
         refine norm_ (a' := ?_) ?_ ?_
         rotate_left
         ·show Act.put _ (some 92) _ = _
          simp only [ps_]
          rfl
         refine pure_ (i := 5) (N := (some 93)) (v := ?_) (a' := ?_) #[true, true, true, true, true, true, true, true, true, true, true, true, false, false, false, false, false] rfl rfl (any_of HT_.out (by kernel_rfl)) (fun _ _ _ h => h) (Or.inl ⟨by rfl, ?_⟩) ?_ ?_
         rotate_left
         ·intro w'
          go_simp
          with_reducible rfl
         rotate_left
         ·simp only [ps_]
          rfl
         exact norm_ (by simp only [putAll, Act.put, List.setIfInBounds_toArray, List.set_cons_zero, List.set_cons_succ]) (hCont w11.heap.size _ hHeld)
      clear hHeld
      rintro g2 w12 hHeld
      refine norm_ (a' := ?_) ?_ ?_
      rotate_left
      ·simp only [putAll, Act.put, List.setIfInBounds_toArray, List.set_cons_zero, List.set_cons_succ]
       rfl
      refine pure_ (i := 12) (N := (some 100)) (v := ?_) (a' := ?_) #[true, true, true, true, true, true, true, true, true, true, true, true, true, false, false, false, false] rfl rfl (any_of HT_.out (by kernel_rfl)) (fun _ _ _ h => h) (Or.inl ⟨by rfl, ?_⟩) ?_ ?_
      rotate_left
      ·intro w'
       go_simp
       with_reducible rfl
      rotate_left
      ·simp only [ps_]
       rfl
      refine one_ (i := 13) (N := (some 101)) #[true, true, true, true, true, true, true, true, true, true, true, true, true, true, false, false, false] rfl rfl (one_of HT_.out (by kernel_rfl)) (by decide) (fun K hK => ?_)
      refine value_ (w1 := ?_) (v := ?_) (by rfl) rfl ?_ ?_
      rotate_left 2
      ·go_simp
       constructor
       ·rfl
       ·rfl
      refine hK.out _ _ ⟨hHeld.1.below (below_alloc (Below.refl _ _) _), Kd.R_below hHeld.2 (below_alloc (Below.refl _ _) _)⟩ (fun hHeld6 => ?_)
      clear hK K
      refine norm_ (a' := ?_) ?_ ?_
      rotate_left
      ·show Act.put _ (some 101) _ = _
       simp only [ps_]
       rfl
      refine last_ (i := 14) (N := (some 102)) #[true, true, true, true, true, true, true, true, true, true, true, true, true, true, true, false, false] rfl rfl (one_of HT_.out (by kernel_rfl)) (by decide) (fun K hK => ?_)
      refine Kd.R_append_step k36 (w0 := w) w.heap.size (by rfl) (.tmp 89) (.tmp 101) 24 36 (.agg #[(.string ⟨#[]⟩), (.string ⟨#[]⟩)]) 32 rfl Try.underlying24 Spn.info64 rfl (by decide) (by omega) (.slice Av 1 cv) [⟨⟨#[97]⟩, Spn.nm (d 11)⟩] (⟨(⟨#[107]⟩ : ByteArray) ++ Spn.nm (d 10), Spn.v3 k11⟩ : S36) [.string ((⟨#[107]⟩ : ByteArray) ++ Spn.nm (d 10)), .string (Spn.v3 k11)] (fun _ => True) (fun _ => False) rfl rfl ?aP (fun _ hk => hk.elim) ?aF ?aO ?aB ?aS ?aL ?_
      case aP => exact k36_mkM _ _ _ _
      case aF => exact fun _ _ => trivial
      case aO => exact hHeld.2
      case aB => exact hHeld.1.hB
      case aS => exact hHeld.1.hB.size
      case aL => simp
      intro v1 w13 hR1 hB9 hG9 hO9
      clear hHeld6
      have hHeld9 := hHeld.1.grown hG9 hB9 (Ne.symm (Kd.R_ne hHeld.2 hHeld.1.hR (by decide))) (Ne.symm (Kd.R_ne hHeld.2 hHeld.1.hD (by decide))) (Ne.symm (Kd.R_ne hHeld.2 hHeld.1.hS (by decide)))
      clear hHeld hG9 hO9 hB9
      obtain ⟨Bv, cw, hv1⟩ := Kd.R_slice hR1
      subst hv1
      simp only [List.cons_append, List.nil_append, List.length_cons, List.length_nil, Nat.zero_add, Nat.reduceAdd] at hR1
      refine hK.out _ _ ?_
      clear hK K
      have hHeld := hHeld9
      clear hHeld9
      refine norm_ (a' := ?_) ?_ ?_
      rotate_left
      ·show Act.put _ (some 102) _ = _
       simp only [ps_]
       rfl
      refine pure_ (i := 15) (N := (some 103)) (v := ?_) (a' := ?_) #[true, true, true, true, true, true, true, true, true, true, true, true, true, true, true, true, false] rfl rfl (any_of HT_.out (by kernel_rfl)) (fun _ _ _ h => h) (Or.inl ⟨by rfl, ?_⟩) ?_ ?_
      rotate_left
      ·intro w'
       go_simp
       with_reducible rfl
      rotate_left
      ·simp only [ps_]
       rfl
      refine last_ (i := 16) (N := none) #[true, true, true, true, true, true, true, true, true, true, true, true, true, true, true, true, true] rfl rfl (one_of HT_.out (by kernel_rfl)) (by decide) (fun K hK => ?_)
      have z8 := (blk_cell hHeld.hS 8).trans (rfl : (#[.int .u64 x0, .int .u64 x1, .int .u64 x2, .int .u64 x3, .string x4, .int .i64 x5, .int .i64 x6, .bool x7, .slice Av 1 cv, .int .u64 0] : Array Value)[8]? = some (.slice Av 1 cv))
      have fz8 := blk_frozen hHeld.hS 8
      refine skip_ (w1 := ?_) (by rfl) rfl ?_ ?_
      rotate_left
      ·go_simp
       rfl
      refine hK.out _ _ (done_ (done_of HT_.out (by kernel_rfl)) ?_)
      clear hK K z8 fz8
      have st14 : Spn.St w D g #[.int .u64 x0, .int .u64 x1, .int .u64 x2, .int .u64 x3, .string x4, .int .i64 x5, .int .i64 x6, .bool x7, .slice Bv 2 cw, .int .u64 0] (w13.setCell ⟨g, 8, none⟩ (.slice Bv 2 cw)) := by simpa using hHeld.set 8 (.slice Bv 2 cw)
      have hR14 := Kd.R_set hR1 hHeld.hS Spn.E64 8 (.slice Bv 2 cw)
      clear hR1 hHeld
      generalize (w13.setCell ⟨g, 8, none⟩ (.slice Bv 2 cw)) = W14 at st14 hR14 ⊢
      clear HT_ d10w h11 h10 h8s
      rw [hmk] at hat
      have y0 : W14.cell? ⟨g, 0, none⟩ = some (.int .u64 x0) := (blk_cell st14.hS 0).trans rfl
      have y1 : W14.cell? ⟨g, 1, none⟩ = some (.int .u64 x1) := (blk_cell st14.hS 1).trans rfl
      have y2 : W14.cell? ⟨g, 2, none⟩ = some (.int .u64 x2) := (blk_cell st14.hS 2).trans rfl
      have y3 : W14.cell? ⟨g, 3, none⟩ = some (.int .u64 x3) := (blk_cell st14.hS 3).trans rfl
      have y4 : W14.cell? ⟨g, 4, none⟩ = some (.string x4) := (blk_cell st14.hS 4).trans rfl
      have y5 : W14.cell? ⟨g, 5, none⟩ = some (.int .i64 x5) := (blk_cell st14.hS 5).trans rfl
      have y6 : W14.cell? ⟨g, 6, none⟩ = some (.int .i64 x6) := (blk_cell st14.hS 6).trans rfl
      have y7 : W14.cell? ⟨g, 7, none⟩ = some (.bool x7) := (blk_cell st14.hS 7).trans rfl
      have y8 : W14.cell? ⟨g, 8, none⟩ = some (.slice Bv 2 cw) := (blk_cell st14.hS 8).trans rfl
      have y9 : W14.cell? ⟨g, 9, none⟩ = some (.int .u64 0) := (blk_cell st14.hS 9).trans rfl
      have r0 : W14.cell? ⟨w.heap.size, 0, none⟩ = some (.int .u64 0) := (blk_cell st14.hR 0).trans rfl
      have e0 := blk_frozen st14.hR 0
      have r1 : W14.cell? ⟨w.heap.size, 1, none⟩ = some (.int .u64 0) := (blk_cell st14.hR 1).trans rfl
      have e1 := blk_frozen st14.hR 1
      have r2 : W14.cell? ⟨w.heap.size, 2, none⟩ = some (.int .u64 0) := (blk_cell st14.hR 2).trans rfl
      have e2 := blk_frozen st14.hR 2
      have r3 : W14.cell? ⟨w.heap.size, 3, none⟩ = some (.int .u64 0) := (blk_cell st14.hR 3).trans rfl
      have e3 := blk_frozen st14.hR 3
      have r4 : W14.cell? ⟨w.heap.size, 4, none⟩ = some (.string ⟨#[]⟩) := (blk_cell st14.hR 4).trans rfl
      have e4 := blk_frozen st14.hR 4
      have r5 : W14.cell? ⟨w.heap.size, 5, none⟩ = some (.int .i64 0) := (blk_cell st14.hR 5).trans rfl
      have e5 := blk_frozen st14.hR 5
      have r6 : W14.cell? ⟨w.heap.size, 6, none⟩ = some (.int .i64 0) := (blk_cell st14.hR 6).trans rfl
      have e6 := blk_frozen st14.hR 6
      have r7 : W14.cell? ⟨w.heap.size, 7, none⟩ = some (.bool false) := (blk_cell st14.hR 7).trans rfl
      have e7 := blk_frozen st14.hR 7
      have r8 : W14.cell? ⟨w.heap.size, 8, none⟩ = some (.slice none 0 0) := (blk_cell st14.hR 8).trans rfl
      have e8 := blk_frozen st14.hR 8
      have r9 : W14.cell? ⟨w.heap.size, 9, none⟩ = some (.int .u64 0) := (blk_cell st14.hR 9).trans rfl
      have e9 := blk_frozen st14.hR 9
      have d10' : W14.cell? ⟨w.heap.size + 1, 10, none⟩ = some (.int .u8 (d 10)) := (blk_cell st14.hD 10).trans (hDc 10 (by omega))
      clear hDc hd
      go_wp2
      have hres : Try.f10.results = #[.cell 2 26] := by kernel_rfl
      refine bodyPost_ret (v := .agg #[.int .u64 x0, .int .u64 x1, .int .u64 x2, .int .u64 x3, .string x4, .int .i64 x5, .int .i64 x6, .bool x7, .slice Bv 2 cw, .int .u64 0]) ?_ rfl (show Spn.Post d w _ _ from ⟨.slice Bv 2 cw, ?_, ?_, ?_⟩)
      ·simp only [results, hres]
       go_simp
      ·rw [hrv, ex0, ex1, ex2, ex3, ex4, ex6, ex5, ex7]
      ·rw [hat]
       exact Kd.R_mono (Kd.R_step (Kd.R_types hR14 st14.hR Spn.E64) (fun k hk _ => Spn.far10 _ _ k hk.2 _ _ _ _ _ _ _ _ _ _)) (fun _ _ => trivial)
      ·exact Spn.below10 w _ _ st14.hB (Nat.le_refl _) _ _ _ _ _ _ _ _ _ _)

def Spn.at (l : List Int) (j : Nat) : Int := (Spn.fin l).getD j 0
def telemeterlaw03_Span.f (l : List Int) : Option (Int × Int × Int × Int × ByteArray × Int × Int × Bool × (List S36) × Int) :=
 if (l.all fun x => decide (0 ≤ x ∧ x ≤ 255)) = true then some (IntKind.u64.wrap ((Spn.at l 0).tmod 3), IntKind.u64.wrap (IntKind.u64.wrap (IntKind.u64.wrap (IntKind.u64.wrap ((Spn.at l 1).tmod 4) * 18014398509481984) + IntKind.u64.wrap (Spn.at l 2)) + 1), IntKind.u64.wrap (IntKind.u64.wrap (Spn.at l 3) + 1), IntKind.u64.wrap ((Spn.at l 4).tmod 3), Spn.nm (Spn.at l 5), wrap64 (Spn.at l 6), wrap64 (wrap64 (Spn.at l 6) + wrap64 (Spn.at l 7)), ((Spn.at l 8).tmod 3 == 0), Spn.attrs (Spn.at l), Spn.rv (Spn.at l)) else none
theorem Spn.Span_calls (A0 : Option Addr) (c0 : Nat) (l0 : List Int) (r1 : Int) (r2 : Int) (r3 : Int) (r4 : Int) (r5 : ByteArray) (r6 : Int) (r7 : Int) (r8 : Bool) (r9 : List S36) (r10 : Int) (w : World) (hr0 : Kd.C (Kd.int .u8) w A0 l0.length l0) (hc0 : l0.length ≤ c0) (h : telemeterlaw03_Span.f l0 = some (r1, r2, r3, r4, r5, r6, r7, r8, r9, r10)) :
  Calls Try.prog 10 #[.slice A0 l0.length c0] w fun e w' => ∃ v8_ : Value, e = .returned (.agg #[.int .u64 r1, .int .u64 r2, .int .u64 r3, .int .u64 r4, .string r5, .int .i64 r6, .int .i64 r7, .bool r8, v8_, .int .u64 r10]) ∧ Kd.R k36 36 w' w.heap.size (fun _ => True) v8_ r9 ∧ Below w.heap.size w w' := by
 unfold telemeterlaw03_Span.f at h
 have hb : (l0.all fun x => decide (0 ≤ x ∧ x ≤ 255)) = true := by
  by_cases hb : (l0.all fun x => decide (0 ≤ x ∧ x ≤ 255)) = true
  ·exact hb
  ·rw [if_neg hb] at h; cases h
 rw [if_pos hb] at h
 have hby : ∀ x ∈ l0, 0 ≤ x ∧ x ≤ 255 := fun x hx => of_decide_eq_true (List.all_eq_true.1 hb x hx)
 have h2 := Option.some.inj h
 simp only [Prod.mk.injEq] at h2
 obtain ⟨rfl, rfl, rfl, rfl, rfl, rfl, rfl, rfl, rfl, rfl⟩ := h2
 exact Spn.calls0 A0 c0 l0 w hr0 hc0 hby (Spn.at l0) (fun _ => rfl)
end Go.Proofs.Ytfapckmobeppnaa.Px
