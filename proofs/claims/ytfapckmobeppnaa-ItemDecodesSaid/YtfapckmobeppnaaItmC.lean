/- slices.IndexFunc and slices.ContainsFunc of attributes; RightSpan. -/
import Derived.Test.YtfapckmobeppnaaItmR
import Derived.Laws.Cover1
import Derived.WalkKit
import Derived.WalkSpells
import Derived.Lib.SliceRun
namespace Go.Proofs.Ytfapckmobeppnaa.Px
open Go.RowKit Go.Proofs.YtfapckmobeppnaaW.PrintWords Go.Proofs.YtfapckmobeppnaaW.PrintLast Go.Proofs.YtfapckmobeppnaaW.PrintMore
set_option linter.unusedVariables false
set_option linter.unusedSimpArgs false

/-- The first place from i on at which p holds, or -1. -/
def Pol.idxF {α : Type} (p : α → Bool) : List α → Int → Int
 | [], _ => -1
 | x :: r, i => if p x = true then i else Pol.idxF p r (i + 1)
theorem Pol.idxF_hit {α : Type} (p : α → Bool) (d : α) : ∀ (l : List α) (i : Int) (j : Nat), j < l.length → (∀ m, m < j → p (l.getD m d) = false) → p (l.getD j d) = true → Pol.idxF p l i = i + j
 | [], _, _, h, _, _ => absurd h (Nat.not_lt_zero _)
 | x :: r, i, 0, _, _, h2 => by
  have h3 : p x = true := by simpa using h2
  simp [Pol.idxF, h3]
 | x :: r, i, j + 1, h, h1, h2 => by
  have h0 : p x = false := by simpa using h1 0 (Nat.succ_pos _)
  have := Pol.idxF_hit p d r (i + 1) j (by simpa using h) (fun m hm => by simpa using h1 (m + 1) (by omega)) (by simpa using h2)
  simp only [Pol.idxF, h0]
  rw [if_neg (by decide), this]
  omega
theorem Pol.idxF_miss {α : Type} (p : α → Bool) (d : α) : ∀ (l : List α) (i : Int), (∀ m, m < l.length → p (l.getD m d) = false) → Pol.idxF p l i = -1
 | [], _, _ => rfl
 | x :: r, i, h1 => by
  have h0 : p x = false := by simpa using h1 0 (by simp)
  have := Pol.idxF_miss p d r (i + 1) (fun m hm => by simpa using h1 (m + 1) (by simpa using hm))
  simp only [Pol.idxF, h0]
  rw [if_neg (by decide), this]
theorem Pol.idxF_any {α : Type} (p : α → Bool) : ∀ (l : List α) (i : Int), 0 ≤ i → decide (0 ≤ Pol.idxF p l i) = l.any p
 | [], _, _ => rfl
 | x :: r, i, hi => by
  cases hx : p x with
  | true => simp [Pol.idxF, hx, hi]
  | false =>
   have := Pol.idxF_any p r (i + 1) (by omega)
   simp only [Pol.idxF, hx, List.any_cons, Bool.false_or]
   rw [if_neg (by decide)]
   exact this
theorem Pol.getD_mem {α : Type} (l : List α) (j : Nat) (d : α) (h : j < l.length) : l.getD j d ∈ l := by
 rw [List.getD_eq_getElem?_getD, List.getElem?_eq_getElem h]
 exact List.getElem_mem h



set_option maxHeartbeats 4000000 in
theorem Pol.IndexFuncA (A0 : Option Addr) (c0 : Nat) (l0 : List (S36)) (p : S36 → Bool) (g : Nat) (lb : Array Value) (w : World)
  (eg : ∀ args w, (callFunc g args).run Try.prog w = .ok (.enter g args) w) (hr0 : Kd.C (k36) w A0 l0.length l0) (hbig : l0.length ≤ 9223372036854775807)
  (hp : ∀ (W : World) (x : S36), Below w.heap.size w W → x ∈ l0 → Calls Try.prog g (#[.agg #[.string x.f0, .string x.f1]] ++ lb) W fun e w' => e = .returned (.bool (p x)) ∧ Below w.heap.size w w') :
  Calls Try.prog 43 #[.slice A0 l0.length c0, .func (.func g) #[] lb] w fun e w' => e = .returned (.int .i64 (Pol.idxF p l0 0)) ∧ Below w.heap.size w w' := by
 go_enter Try.func43, Try.ntmps43
 go_wp2
 go_loopg [5, 8] l0.length (fun gg _ s8 wr => ∃ kk : Nat, kk ≤ l0.length ∧ l0.length - kk ≤ gg ∧ s8 = .int .i64 kk ∧ Aside0 (Below w.heap.size w wr) ∧ Aside0 (∀ j, j < kk → p (l0.getD j z36) = false))
 case atStart => exact ⟨0, Nat.zero_le _, by omega, rfl, ⟨Below.refl _ w⟩, ⟨fun j hj => absurd hj (Nat.not_lt_zero _)⟩⟩
 case round =>
  obtain ⟨kk, hkk, hg, rfl, BW, A⟩ := hrel
  by_cases hlt : kk < l0.length
  ·have hltz : (kk : Int) < (l0.length : Int) := by omega
   have h0z : (0 : Int) ≤ (kk : Int) := by omega
   obtain ⟨ad, e0, hx0, hx1⟩ := at_T36 hr0 (kk : Int) h0z hltz
   simp only [Int.toNat_natCast, rd_T36] at hx0 hx1
   have hm : l0.getD kk z36 ∈ l0 := Pol.getD_mem l0 _ z36 hlt
   cases e0
   replace hx0 := (BW.out.cell (World.block_lt_of_cell? w _ hx0)).trans hx0
   replace hx1 := (BW.out.cell (World.block_lt_of_cell? w _ hx1)).trans hx1
   have hcall := hp wr (l0.getD kk z36) BW.out hm
   have B : Aside0 (l0.getD kk z36 = l0.getD kk z36) := ⟨rfl⟩
   clear hp hr0
   generalize hy : l0.getD kk z36 = y at hx0 hx1 hcall
   replace B : Aside0 (l0.getD kk z36 = y) := ⟨hy⟩
   clear hy
   cases hq : p y with
   | true =>
    rw [hq] at hcall
    go_wp2_with (fail)
    refine hcall.mono ?_
    rintro e w' ⟨rfl, hb'⟩
    go_wp2
    go_ret
    refine ⟨?_, hb'⟩
    rw [Pol.idxF_hit p z36 l0 0 kk hlt A.out (by rw [B.out]; exact hq)]
    simp
   | false =>
    rw [hq] at hcall
    go_wp2_with (fail)
    refine hcall.mono ?_
    rintro e w' ⟨rfl, hb'⟩
    go_wp2
    go_roundg (l0.length - (kk + 1))
    case measure => omega
    case rel =>
     refine ⟨kk + 1, by omega, by omega, by go_num, ⟨hb'⟩, ⟨fun j hj => ?_⟩⟩
     by_cases e : j = kk
     ·subst e
      rw [B.out]; exact hq
     ·exact A.out j (by omega)
  ·have hltz : decide ((kk : Int) < (l0.length : Int)) = false := decide_eq_false (by omega)
   have hke : kk = l0.length := by omega
   clear hlt hp hr0
   go_wp2
   go_ret
   refine ⟨?_, BW.out⟩
   rw [Pol.idxF_miss p z36 l0 0 (hke ▸ A.out)]
   rfl


set_option maxHeartbeats 4000000 in
theorem Pol.ContainsFuncA (A0 : Option Addr) (c0 : Nat) (l0 : List (S36)) (p : S36 → Bool) (g : Nat) (lb : Array Value) (w : World)
  (eg : ∀ args w, (callFunc g args).run Try.prog w = .ok (.enter g args) w) (hr0 : Kd.C (k36) w A0 l0.length l0) (hbig : l0.length ≤ 9223372036854775807)
  (hp : ∀ (W : World) (x : S36), Below w.heap.size w W → x ∈ l0 → Calls Try.prog g (#[.agg #[.string x.f0, .string x.f1]] ++ lb) W fun e w' => e = .returned (.bool (p x)) ∧ Below w.heap.size w w') :
  Calls Try.prog 26 #[.slice A0 l0.length c0, .func (.func g) #[] lb] w fun e w' => e = .returned (.bool (l0.any p)) ∧ Below w.heap.size w w' := by
 have hcall := Pol.IndexFuncA A0 c0 l0 p g lb w eg hr0 hbig hp
 rw [← Pol.idxF_any p l0 0 (Int.le_refl _)]
 generalize Pol.idxF p l0 0 = r at hcall ⊢
 clear hp hr0 eg
 go_enter Try.func26, Try.ntmps26
 have e6 : ∀ args w, (callFunc 43 args).run Try.prog w = .ok (.enter 43 args) w := fun args w => enters_ Try.func43 (by kernel_rfl) rfl args w
 go_wp2_with (fail)
 refine hcall.mono ?_
 rintro e w' ⟨rfl, hb'⟩
 go_wp2
 go_ret
 exact ⟨rfl, hb'⟩

def Itm.oddB (a : S36) : Bool := !Itm.nameB a.f0 || decide ((a.f1.size : Int) > 60)
set_option maxHeartbeats 1000000 in
theorem Itm.odd_calls (a : S36) (w : World) (hk : a.f0.size ≤ 140737488355328) : Calls Try.prog 23 #[.agg #[.string a.f0, .string a.f1]] w fun e w' => e = .returned (.bool (Itm.oddB a)) ∧ Below w.heap.size w w' := by
 have hR : Itm.oddB a = (!Itm.nameB a.f0 || decide ((a.f1.size : Int) > 60)) := rfl
 generalize Itm.oddB a = R at hR ⊢
 obtain ⟨k, v⟩ := a
 dsimp only at hk hR ⊢
 have cN := fun w => Itm.name_calls k w hk
 generalize Itm.nameB k = x1 at hR cN
 replace cN := Aside0.mk cN
 replace hR := Aside0.mk hR
 have hB0 := Aside0.mk (below_alloc (Below.refl w.heap.size w) (.cells #[.string k, .string v] 36 (0, 0)))
 have hb0 := Aside0.mk (blk_new w (.cells #[.string k, .string v] 36 (0, 0)))
 go_enter Try.func23, Try.ntmps23
 go_wp2_with (fail)
 generalize w.alloc (.cells #[.string k, .string v] 36 (0, 0)) = W0 at *
 refine (cN.out _).mono ?_
 rintro e w1 ⟨rfl, hb1⟩
 replace hb0 := Aside0.mk (blk_below hb0.out hb1); replace hB0 := Aside0.mk (below_step hB0.out hb1)
 clear hb1 cN
 have z1 : w1.cell? ⟨w.heap.size, 1, none⟩ = some (.string v) := blk_cell hb0.out 1
 cases x1 with
 | false =>
  have hR2 : R = true := hR.out
  subst hR2
  go_wp2_with (fail)
  go_ret
  exact ⟨rfl, hB0.out⟩
 | true =>
  cases b1 : decide ((v.size : Int) > 60) with
  | false =>
   have hR2 : R = false := by rw [hR.out, b1]; rfl
   subst hR2
   go_wp2_with (fail)
   go_ret
   exact ⟨rfl, hB0.out⟩
  | true =>
   have hR2 : R = true := by rw [hR.out, b1]; rfl
   subst hR2
   go_wp2_with (fail)
   go_ret
   exact ⟨rfl, hB0.out⟩
/-- A text is no greater than another one. -/
def Itm.leB (k last : ByteArray) : Bool := Op.bytesLess k.toList last.toList || k.toList == last.toList
/-- Attributes stand by rising keys. -/
def Itm.ordB : ByteArray → List S36 → Bool
 | _, [] => true
 | last, a :: r => !Itm.leB a.f0 last && Itm.ordB a.f0 r
theorem Itm.ord_drop (l : List S36) (j : Nat) (hj : j < l.length) (last : ByteArray) : Itm.ordB last (l.drop j) = (!Itm.leB (l.getD j z36).f0 last && Itm.ordB (l.getD j z36).f0 (l.drop (j + 1))) := by
 rw [List.drop_eq_getElem_cons hj, Itm.ordB, List.getD_eq_getElem?_getD, List.getElem?_eq_getElem hj]
 rfl
def Itm.rightSpan (hi lo id : Int) (nm : ByteArray) (st en : Int) (l : List S36) (rv : Int) : Bool :=
 Itm.ordB ⟨#[]⟩ l && ((Go.bits .or .u64 hi lo != 0) && ((id != 0) && (Itm.nameB nm && (Itm.timeB st && (Itm.timeB en && (decide (st ≤ en) && (decide ((l.length : Int) ≤ 8) && (!(l.any Itm.oddB) && decide (rv ≤ 72057594037927936)))))))))
set_option maxHeartbeats 1000000 in
set_option maxRecDepth 100000 in
theorem Itm.RightSpan_calls (hi lo id par : Int) (nm : ByteArray) (st en : Int) (bad : Bool) (A : Option Addr) (c : Nat) (l : List S36) (rv : Int) (w : World) (hr : Kd.C k36 w A l.length l) (hc : l.length ≤ c) (hk : ∀ a ∈ l, a.f0.size ≤ 140737488355328) (hnm : nm.size ≤ 140737488355328) :
  Calls Try.prog 13 #[.agg #[.int .u64 hi, .int .u64 lo, .int .u64 id, .int .u64 par, .string nm, .int .i64 st, .int .i64 en, .bool bad, .slice A l.length c, .int .u64 rv]] w fun e w' => e = .returned (.bool (Itm.rightSpan hi lo id nm st en l rv)) ∧ Below w.heap.size w w' := by
 have hR : Itm.rightSpan hi lo id nm st en l rv = (Itm.ordB ⟨#[]⟩ l && ((Go.bits .or .u64 hi lo != 0) && ((id != 0) && (Itm.nameB nm && (Itm.timeB st && (Itm.timeB en && (decide (st ≤ en) && (decide ((l.length : Int) ≤ 8) && (!(l.any Itm.oddB) && decide (rv ≤ 72057594037927936)))))))))) := rfl
 generalize Itm.rightSpan hi lo id nm st en l rv = R at hR ⊢
 replace hR := Aside0.mk hR
 have hmx := Kd.C_max hr
 replace hr := Aside0.mk hr
 have hB0 := Aside0.mk (below_alloc (Below.refl w.heap.size w) (.cells #[.int .u64 hi, .int .u64 lo, .int .u64 id, .int .u64 par, .string nm, .int .i64 st, .int .i64 en, .bool bad, .slice A l.length c, .int .u64 rv] 26 (0, 0)))
 have hb0 := Aside0.mk (blk_new w (.cells #[.int .u64 hi, .int .u64 lo, .int .u64 id, .int .u64 par, .string nm, .int .i64 st, .int .i64 en, .bool bad, .slice A l.length c, .int .u64 rv] 26 (0, 0)))
 go_enter Try.func13, Try.ntmps13
 go_wp2_with (fail)
 generalize w.alloc (.cells #[.int .u64 hi, .int .u64 lo, .int .u64 id, .int .u64 par, .string nm, .int .i64 st, .int .i64 en, .bool bad, .slice A l.length c, .int .u64 rv] 26 (0, 0)) = W0 at *
 go_loopg [4, 10] l.length (fun gg s4 s10 wr => ∃ (j : Nat) (last : ByteArray), s4 = .string last ∧ s10 = .int .i64 j ∧ j ≤ l.length ∧ l.length - j ≤ gg ∧ Aside0 (Itm.ordB ⟨#[]⟩ l = Itm.ordB last (l.drop j)) ∧ Aside0 (Below w.heap.size w wr) ∧ Aside0 (wr.heap[w.heap.size]? = some (.cells #[.int .u64 hi, .int .u64 lo, .int .u64 id, .int .u64 par, .string nm, .int .i64 st, .int .i64 en, .bool bad, .slice A l.length c, .int .u64 rv] 26 (0, 0))))
 case atStart => exact ⟨0, ⟨#[]⟩, rfl, rfl, by omega, by omega, ⟨rfl⟩, hB0, hb0⟩
 case round =>
  clear hB0 hb0
  obtain ⟨j, last, rfl, rfl, hjl, hgg, ho, HB, hb⟩ := hrel
  by_cases hj : j < l.length
  ·have hjz : (j : Int) < (l.length : Int) := by omega
   have hj0 : (0 : Int) ≤ (j : Int) := by omega
   obtain ⟨ad, e0, hx0, hx1⟩ := at_T36 hr.out (j : Int) hj0 hjz
   simp only [Int.toNat_natCast, rd_T36] at hx0 hx1
   cases e0
   replace hx0 := (HB.out.cell (World.block_lt_of_cell? _ _ hx0)).trans hx0
   replace hx1 := (HB.out.cell (World.block_lt_of_cell? _ _ hx1)).trans hx1
   have hod := Aside0.mk (Itm.ord_drop l j hj last)
   generalize l.getD j z36 = y at *
   obtain ⟨k1, v1⟩ := y
   dsimp only at hx0 hx1
   have hBn := Aside0.mk (below_alloc HB.out (.cells #[.string k1, .string v1] 36 (0, 0)))
   have hbn := Aside0.mk (blk_alloc hb.out (.cells #[.string k1, .string v1] 36 (0, 0)))
   have hle : Itm.leB k1 last = (Op.bytesLess k1.toList last.toList || k1.toList == last.toList) := rfl
   generalize Itm.leB k1 last = LE at *
   cases hbl : (Op.bytesLess k1.toList last.toList || k1.toList == last.toList) with
   | true =>
    rw [hbl] at hle
    subst hle
    have hR2 : R = false := by rw [hR.out, ho.out, hod.out]; rfl
    subst hR2
    go_wp2_with (fail)
    go_ret
    exact ⟨rfl, hBn.out⟩
   | false =>
    rw [hbl] at hle
    subst hle
    have hon := Aside0.mk (show Itm.ordB ⟨#[]⟩ l = Itm.ordB k1 (l.drop (j + 1)) by rw [ho.out, hod.out]; rfl)
    go_wp2_with (fail)
    go_roundg (l.length - (j + 1))
    case measure => omega
    case rel => exact ⟨j + 1, k1, rfl, by go_num, by omega, by omega, hon, hBn, hbn⟩
  ·have hjz : decide ((j : Int) < (l.length : Int)) = false := decide_eq_false (by omega)
   have hR1 : R = ((Go.bits .or .u64 hi lo != 0) && ((id != 0) && (Itm.nameB nm && (Itm.timeB st && (Itm.timeB en && (decide (st ≤ en) && (decide ((l.length : Int) ≤ 8) && (!(l.any Itm.oddB) && decide (rv ≤ 72057594037927936))))))))) := by
    rw [hR.out, ho.out, List.drop_eq_nil_of_le (by omega), Itm.ordB, Bool.true_and]
   replace hR1 := Aside0.mk hR1
   clear ho hR
   generalize wr = w5 at *
   have z0 : w5.cell? ⟨w.heap.size, 0, none⟩ = some (.int .u64 hi) := blk_cell hb.out 0
   have z1 : w5.cell? ⟨w.heap.size, 1, none⟩ = some (.int .u64 lo) := blk_cell hb.out 1
   have z2 : w5.cell? ⟨w.heap.size, 2, none⟩ = some (.int .u64 id) := blk_cell hb.out 2
   have z4 : w5.cell? ⟨w.heap.size, 4, none⟩ = some (.string nm) := blk_cell hb.out 4
   have z5 : w5.cell? ⟨w.heap.size, 5, none⟩ = some (.int .i64 st) := blk_cell hb.out 5
   have z6 : w5.cell? ⟨w.heap.size, 6, none⟩ = some (.int .i64 en) := blk_cell hb.out 6
   have z8 : w5.cell? ⟨w.heap.size, 8, none⟩ = some (.slice A l.length c) := blk_cell hb.out 8
   have z9 : w5.cell? ⟨w.heap.size, 9, none⟩ = some (.int .u64 rv) := blk_cell hb.out 9
   cases hq0 : (Go.bits .or .u64 hi lo != 0) with
   | false =>
    have hR2 := hR1.out
    rw [hq0] at hR2
    have hR3 : R = false := hR2
    clear hR1 hR2
    subst hR3
    go_wp2_with (fail)
    go_ret
    exact ⟨rfl, HB.out⟩
   | true =>
    have hR2 := hR1.out
    rw [hq0] at hR2
    have hR3 := Aside0.mk (show R = ((id != 0) && (Itm.nameB nm && (Itm.timeB st && (Itm.timeB en && ((decide (st ≤ en)) && ((decide ((l.length : Int) ≤ 8)) && (!(l.any Itm.oddB) && (decide (rv ≤ 72057594037927936))))))))) from hR2.trans (Bool.true_and _))
    clear hR1 hR2
    have hR1 := hR3
    clear hR3
    cases hq1 : (id != 0) with
    | false =>
     have hR2 := hR1.out
     rw [hq1] at hR2
     have hR3 : R = false := hR2
     clear hR1 hR2
     subst hR3
     go_wp2_with (fail)
     go_ret
     exact ⟨rfl, HB.out⟩
    | true =>
     have hR2 := hR1.out
     rw [hq1] at hR2
     have hR3 := Aside0.mk (show R = (Itm.nameB nm && (Itm.timeB st && (Itm.timeB en && ((decide (st ≤ en)) && ((decide ((l.length : Int) ≤ 8)) && (!(l.any Itm.oddB) && (decide (rv ≤ 72057594037927936)))))))) from hR2.trans (Bool.true_and _))
     clear hR1 hR2
     have hR1 := hR3
     clear hR3
     go_wp2_with (fail)
     refine (Itm.name_calls nm _ hnm).mono ?_
     rintro e w6 ⟨rfl, hbb⟩
     replace hb := Aside0.mk (blk_below hb.out hbb); replace HB := Aside0.mk (below_step HB.out hbb)
     clear hbb z0 z1 z2 z4 z5 z6 z8 z9
     have z0 : w6.cell? ⟨w.heap.size, 0, none⟩ = some (.int .u64 hi) := blk_cell hb.out 0
     have z1 : w6.cell? ⟨w.heap.size, 1, none⟩ = some (.int .u64 lo) := blk_cell hb.out 1
     have z2 : w6.cell? ⟨w.heap.size, 2, none⟩ = some (.int .u64 id) := blk_cell hb.out 2
     have z4 : w6.cell? ⟨w.heap.size, 4, none⟩ = some (.string nm) := blk_cell hb.out 4
     have z5 : w6.cell? ⟨w.heap.size, 5, none⟩ = some (.int .i64 st) := blk_cell hb.out 5
     have z6 : w6.cell? ⟨w.heap.size, 6, none⟩ = some (.int .i64 en) := blk_cell hb.out 6
     have z8 : w6.cell? ⟨w.heap.size, 8, none⟩ = some (.slice A l.length c) := blk_cell hb.out 8
     have z9 : w6.cell? ⟨w.heap.size, 9, none⟩ = some (.int .u64 rv) := blk_cell hb.out 9
     cases hq2 : Itm.nameB nm with
     | false =>
      have hR2 := hR1.out
      rw [hq2] at hR2
      have hR3 : R = false := hR2
      clear hR1 hR2
      subst hR3
      go_wp2_with (fail)
      go_ret
      exact ⟨rfl, HB.out⟩
     | true =>
      have hR2 := hR1.out
      rw [hq2] at hR2
      have hR3 := Aside0.mk (show R = (Itm.timeB st && (Itm.timeB en && ((decide (st ≤ en)) && ((decide ((l.length : Int) ≤ 8)) && (!(l.any Itm.oddB) && (decide (rv ≤ 72057594037927936))))))) from hR2.trans (Bool.true_and _))
      clear hR1 hR2
      have hR1 := hR3
      clear hR3
      go_wp2_with (fail)
      refine (Itm.time_calls st _).mono ?_
      rintro e w7 ⟨rfl, hbb⟩
      replace hb := Aside0.mk (blk_below hb.out hbb); replace HB := Aside0.mk (below_step HB.out hbb)
      clear hbb z0 z1 z2 z4 z5 z6 z8 z9
      have z0 : w7.cell? ⟨w.heap.size, 0, none⟩ = some (.int .u64 hi) := blk_cell hb.out 0
      have z1 : w7.cell? ⟨w.heap.size, 1, none⟩ = some (.int .u64 lo) := blk_cell hb.out 1
      have z2 : w7.cell? ⟨w.heap.size, 2, none⟩ = some (.int .u64 id) := blk_cell hb.out 2
      have z4 : w7.cell? ⟨w.heap.size, 4, none⟩ = some (.string nm) := blk_cell hb.out 4
      have z5 : w7.cell? ⟨w.heap.size, 5, none⟩ = some (.int .i64 st) := blk_cell hb.out 5
      have z6 : w7.cell? ⟨w.heap.size, 6, none⟩ = some (.int .i64 en) := blk_cell hb.out 6
      have z8 : w7.cell? ⟨w.heap.size, 8, none⟩ = some (.slice A l.length c) := blk_cell hb.out 8
      have z9 : w7.cell? ⟨w.heap.size, 9, none⟩ = some (.int .u64 rv) := blk_cell hb.out 9
      cases hq3 : Itm.timeB st with
      | false =>
       have hR2 := hR1.out
       rw [hq3] at hR2
       have hR3 : R = false := hR2
       clear hR1 hR2
       subst hR3
       go_wp2_with (fail)
       go_ret
       exact ⟨rfl, HB.out⟩
      | true =>
       have hR2 := hR1.out
       rw [hq3] at hR2
       have hR3 := Aside0.mk (show R = (Itm.timeB en && ((decide (st ≤ en)) && ((decide ((l.length : Int) ≤ 8)) && (!(l.any Itm.oddB) && (decide (rv ≤ 72057594037927936)))))) from hR2.trans (Bool.true_and _))
       clear hR1 hR2
       have hR1 := hR3
       clear hR3
       go_wp2_with (fail)
       refine (Itm.time_calls en _).mono ?_
       rintro e w8 ⟨rfl, hbb⟩
       replace hb := Aside0.mk (blk_below hb.out hbb); replace HB := Aside0.mk (below_step HB.out hbb)
       clear hbb z0 z1 z2 z4 z5 z6 z8 z9
       have z0 : w8.cell? ⟨w.heap.size, 0, none⟩ = some (.int .u64 hi) := blk_cell hb.out 0
       have z1 : w8.cell? ⟨w.heap.size, 1, none⟩ = some (.int .u64 lo) := blk_cell hb.out 1
       have z2 : w8.cell? ⟨w.heap.size, 2, none⟩ = some (.int .u64 id) := blk_cell hb.out 2
       have z4 : w8.cell? ⟨w.heap.size, 4, none⟩ = some (.string nm) := blk_cell hb.out 4
       have z5 : w8.cell? ⟨w.heap.size, 5, none⟩ = some (.int .i64 st) := blk_cell hb.out 5
       have z6 : w8.cell? ⟨w.heap.size, 6, none⟩ = some (.int .i64 en) := blk_cell hb.out 6
       have z8 : w8.cell? ⟨w.heap.size, 8, none⟩ = some (.slice A l.length c) := blk_cell hb.out 8
       have z9 : w8.cell? ⟨w.heap.size, 9, none⟩ = some (.int .u64 rv) := blk_cell hb.out 9
       cases hq4 : Itm.timeB en with
       | false =>
        have hR2 := hR1.out
        rw [hq4] at hR2
        have hR3 : R = false := hR2
        clear hR1 hR2
        subst hR3
        go_wp2_with (fail)
        go_ret
        exact ⟨rfl, HB.out⟩
       | true =>
        have hR2 := hR1.out
        rw [hq4] at hR2
        have hR3 := Aside0.mk (show R = ((decide (st ≤ en)) && ((decide ((l.length : Int) ≤ 8)) && (!(l.any Itm.oddB) && (decide (rv ≤ 72057594037927936))))) from hR2.trans (Bool.true_and _))
        clear hR1 hR2
        have hR1 := hR3
        clear hR3
        cases hq5 : (decide (st ≤ en)) with
        | false =>
         have hR2 := hR1.out
         rw [hq5] at hR2
         have hR3 : R = false := hR2
         clear hR1 hR2
         subst hR3
         go_wp2_with (fail)
         go_ret
         exact ⟨rfl, HB.out⟩
        | true =>
         have hR2 := hR1.out
         rw [hq5] at hR2
         have hR3 := Aside0.mk (show R = ((decide ((l.length : Int) ≤ 8)) && (!(l.any Itm.oddB) && (decide (rv ≤ 72057594037927936)))) from hR2.trans (Bool.true_and _))
         clear hR1 hR2
         have hR1 := hR3
         clear hR3
         cases hq6 : (decide ((l.length : Int) ≤ 8)) with
         | false =>
          have hR2 := hR1.out
          rw [hq6] at hR2
          have hR3 : R = false := hR2
          clear hR1 hR2
          subst hR3
          go_wp2_with (fail)
          go_ret
          exact ⟨rfl, HB.out⟩
         | true =>
          have hR2 := hR1.out
          rw [hq6] at hR2
          have hR3 := Aside0.mk (show R = (!(l.any Itm.oddB) && (decide (rv ≤ 72057594037927936))) from hR2.trans (Bool.true_and _))
          clear hR1 hR2
          have hR1 := hR3
          clear hR3
          go_wp2_with (fail)
          refine (Pol.ContainsFuncA A c l Itm.oddB 23 #[] w8 (fun args w => enters_ Try.func23 (by kernel_rfl) rfl args w) (Kd.C_below hr.out HB.out) hmx (fun W x hWb hxm => by show Calls Try.prog 23 #[.agg #[.string x.f0, .string x.f1]] W _; refine (Itm.odd_calls x W (hk x hxm)).mono ?_; rintro e w' ⟨h1_, h2_⟩; exact ⟨h1_, below_step hWb h2_⟩)).mono ?_
          rintro e w9 ⟨rfl, hbb⟩
          replace hb := Aside0.mk (blk_below hb.out hbb); replace HB := Aside0.mk (below_step HB.out hbb)
          clear hbb z0 z1 z2 z4 z5 z6 z8 z9
          have z0 : w9.cell? ⟨w.heap.size, 0, none⟩ = some (.int .u64 hi) := blk_cell hb.out 0
          have z1 : w9.cell? ⟨w.heap.size, 1, none⟩ = some (.int .u64 lo) := blk_cell hb.out 1
          have z2 : w9.cell? ⟨w.heap.size, 2, none⟩ = some (.int .u64 id) := blk_cell hb.out 2
          have z4 : w9.cell? ⟨w.heap.size, 4, none⟩ = some (.string nm) := blk_cell hb.out 4
          have z5 : w9.cell? ⟨w.heap.size, 5, none⟩ = some (.int .i64 st) := blk_cell hb.out 5
          have z6 : w9.cell? ⟨w.heap.size, 6, none⟩ = some (.int .i64 en) := blk_cell hb.out 6
          have z8 : w9.cell? ⟨w.heap.size, 8, none⟩ = some (.slice A l.length c) := blk_cell hb.out 8
          have z9 : w9.cell? ⟨w.heap.size, 9, none⟩ = some (.int .u64 rv) := blk_cell hb.out 9
          cases hq7 : l.any Itm.oddB with
          | false =>
           have hR2 := hR1.out
           rw [hq7] at hR2
           have hR3 := Aside0.mk (show R = (decide (rv ≤ 72057594037927936)) from hR2.trans (Bool.true_and _))
           clear hR1 hR2
           have hR1 := hR3
           clear hR3
           cases hq8 : (decide (rv ≤ 72057594037927936)) with
           | false =>
            have hR2 := hR1.out
            rw [hq8] at hR2
            have hR3 : R = false := hR2
            clear hR1 hR2
            subst hR3
            go_wp2_with (fail)
            go_ret
            exact ⟨rfl, HB.out⟩
           | true =>
            have hR2 := hR1.out
            rw [hq8] at hR2
            have hR3 : R = true := hR2
            clear hR1 hR2
            subst hR3
            go_wp2_with (fail)
            go_ret
            exact ⟨rfl, HB.out⟩
          | true =>
           have hR2 := hR1.out
           rw [hq7] at hR2
           have hR3 : R = false := hR2
           clear hR1 hR2
           subst hR3
           go_wp2_with (fail)
           go_ret
           exact ⟨rfl, HB.out⟩
end Go.Proofs.Ytfapckmobeppnaa.Px

