/- What Span and Log of telemeterlaw03 tell: a span and a log that may be. -/
import Derived.Test.YtfapckmobeppnaaItmG
import Derived.Test.YtfapckmobeppnaaItmY
import Derived.Test.YtfapckmobeppnaaSpan
namespace Go.Proofs.Ytfapckmobeppnaa.Px
open Go.RowKit Go.Proofs.YtfapckmobeppnaaW.PrintWords Go.Proofs.YtfapckmobeppnaaW.PrintLast Go.Proofs.YtfapckmobeppnaaW.PrintMore
set_option linter.unusedVariables false
set_option linter.unusedSimpArgs false

theorem ItB.or_ne (a b : Nat) (ha : a < 18446744073709551616) (hb : b < 18446744073709551616) (h0 : b ≠ 0) : Go.bits .or .u64 (a : Int) (b : Int) ≠ 0 := by
 have ha' : a % 2 ^ 64 = a := Nat.mod_eq_of_lt ha
 have hb' : b % 2 ^ 64 = b := Nat.mod_eq_of_lt hb
 simp only [Go.bits, IntKind.bits]
 rw [BitVec.ofInt_natCast, BitVec.ofInt_natCast]
 show IntKind.u64.wrap ((BitVec.ofNat 64 a ||| BitVec.ofNat 64 b).toNat : Int) ≠ 0
 rw [BitVec.toNat_or, BitVec.toNat_ofNat, BitVec.toNat_ofNat, ha', hb', wrap_u64_id (by omega) (by have := Nat.or_lt_two_pow (n := 64) ha hb; omega)]
 intro h
 have h1 : a ||| b = 0 := by omega
 exact h0 (Nat.or_eq_zero_iff.mp h1).2
theorem ItB.at_byte (l : List Int) (h : ∀ x ∈ l, 0 ≤ x ∧ x ≤ 255) (j : Nat) : 0 ≤ Spn.at l j ∧ Spn.at l j ≤ 255 := by
 unfold Spn.at Spn.fin
 by_cases hj : j < (Spn.row l (min l.length 12)).length
 ·exact Spn.getD_byte _ (Spn.row_bytes l _ h) j hj
 ·rw [List.getD_eq_getElem?_getD, List.getElem?_eq_none (by omega)]; exact ⟨Int.le_refl _, by decide⟩
theorem ItB.nm_ok : ∀ c : Fin 256, Itm.nameB (Spn.nm ((c.val : Nat) : Int)) = true ∧ (Spn.nm ((c.val : Nat) : Int)).size ≤ 60 ∧ Itm.nameB ((⟨#[107]⟩ : ByteArray) ++ Spn.nm ((c.val : Nat) : Int)) = true ∧ ((⟨#[107]⟩ : ByteArray) ++ Spn.nm ((c.val : Nat) : Int)).size ≤ 60 ∧ Itm.leB ((⟨#[107]⟩ : ByteArray) ++ Spn.nm ((c.val : Nat) : Int)) ⟨#[97]⟩ = false := by decide +kernel
theorem ItB.nm (x : Int) (h : 0 ≤ x ∧ x ≤ 255) : Itm.nameB (Spn.nm x) = true ∧ (Spn.nm x).size ≤ 60 ∧ Itm.nameB ((⟨#[107]⟩ : ByteArray) ++ Spn.nm x) = true ∧ ((⟨#[107]⟩ : ByteArray) ++ Spn.nm x).size ≤ 60 ∧ Itm.leB ((⟨#[107]⟩ : ByteArray) ++ Spn.nm x) ⟨#[97]⟩ = false := by
 have := ItB.nm_ok ⟨x.toNat, by omega⟩
 rwa [show ((x.toNat : Nat) : Int) = x from by omega] at this
theorem ItB.v3_size (k : Nat) : (Spn.v3 k).size ≤ 60 := by
 match k with
 | 0 => decide
 | 1 => decide
 | 2 => decide
 | n + 3 => show (0 : Nat) ≤ 60; omega
theorem ItB.a1 : Itm.leB ⟨#[97]⟩ ⟨#[]⟩ = false ∧ Itm.nameB ⟨#[97]⟩ = true := by decide +kernel
/-- The attributes that Span lays. -/
theorem ItB.attrs (d : Nat → Int) (h10 : 0 ≤ d 10 ∧ d 10 ≤ 255) (h11 : 0 ≤ d 11 ∧ d 11 ≤ 255) :
  Itm.ordB ⟨#[]⟩ (Spn.attrs d) = true ∧ (Spn.attrs d).length ≤ 2 ∧ (Spn.attrs d).any Itm.oddB = false ∧ ∀ a ∈ Spn.attrs d, a.f0.size ≤ 60 ∧ a.f1.size ≤ 60 := by
 obtain ⟨p1, p2, p3, p4, p5⟩ := ItB.nm (d 10) h10
 obtain ⟨q1, q2, _⟩ := ItB.nm (d 11) h11
 have v := ItB.v3_size (Int.tmod (d 11) 3).toNat
 obtain ⟨e1, e2⟩ := ItB.a1
 have o1 : Itm.oddB ⟨⟨#[97]⟩, Spn.nm (d 11)⟩ = false := by unfold Itm.oddB; rw [e2, decide_eq_false (by show ¬ ((Spn.nm (d 11)).size : Int) > 60; omega)]; rfl
 have o2 : Itm.oddB ⟨(⟨#[107]⟩ : ByteArray) ++ Spn.nm (d 10), Spn.v3 (Int.tmod (d 11) 3).toNat⟩ = false := by unfold Itm.oddB; rw [p3, decide_eq_false (by show ¬ ((Spn.v3 (Int.tmod (d 11) 3).toNat).size : Int) > 60; omega)]; rfl
 unfold Spn.attrs
 split
 ·exact ⟨rfl, by decide, rfl, fun a ha => by cases ha⟩
 ·split
  ·refine ⟨?_, by simp, ?_, fun a ha => ?_⟩
   ·rw [Itm.ordB, Itm.ordB, e1]; rfl
   ·rw [List.any_cons, o1]; rfl
   ·obtain rfl := List.mem_singleton.mp ha
    exact ⟨by show (1 : Nat) ≤ 60; omega, q2⟩
  ·refine ⟨?_, by simp, ?_, fun a ha => ?_⟩
   ·rw [Itm.ordB, Itm.ordB, Itm.ordB, e1, p5]; rfl
   ·rw [List.any_cons, List.any_cons, o1, o2]; rfl
   ·rcases List.mem_cons.mp ha with rfl | ha
    ·exact ⟨by show (1 : Nat) ≤ 60; omega, q2⟩
    ·obtain rfl := List.mem_singleton.mp ha
     exact ⟨p4, v⟩
/-- A span as Span tells it. -/
structure ItB.Ok (hi lo id par : Int) (nm : ByteArray) (st en : Int) (ats : List S36) (rv : Int) : Prop where
 f1 : (Go.bits .or .u64 hi lo != 0) = true
 f2 : (id != 0) = true
 f3 : Itm.nameB nm = true
 f4 : Itm.timeB st = true
 f5 : Itm.timeB en = true
 f6 : decide (st ≤ en) = true
 f7 : decide (rv ≤ 72057594037927936) = true
 o1 : Itm.ordB ⟨#[]⟩ ats = true
 o2 : ats.length ≤ 2
 o3 : ats.any Itm.oddB = false
 o4 : ∀ a ∈ ats, a.f0.size ≤ 60 ∧ a.f1.size ≤ 60
 nz : nm.size ≤ 60
 bh : 0 ≤ hi ∧ hi < 18446744073709551616
 bl : 0 ≤ lo ∧ lo < 18446744073709551616
 bi : 0 ≤ id ∧ id < 18446744073709551616
 bp : 0 ≤ par ∧ par < 18446744073709551616
 br : 0 ≤ rv ∧ rv < 18446744073709551616
 bs : 0 ≤ st ∧ st < 1000
 be : 0 ≤ en ∧ en < 1000
theorem ItB.Ok.all {hi lo id par : Int} {nm : ByteArray} {st en : Int} {ats : List S36} {rv : Int} (h : ItB.Ok hi lo id par nm st en ats rv) : (ats.all fun a => decide (a.f0.size ≤ 140737488355328)) = true :=
 List.all_eq_true.mpr fun a ha => decide_eq_true (Nat.le_trans (h.o4 a ha).1 (by decide))
theorem ItB.Ok.size {hi lo id par : Int} {nm : ByteArray} {st en : Int} {ats : List S36} {rv : Int} (h : ItB.Ok hi lo id par nm st en ats rv) : nm.size ≤ 140737488355328 := Nat.le_trans h.nz (by decide)
theorem ItB.Ok.right {hi lo id par : Int} {nm : ByteArray} {st en : Int} {ats : List S36} {rv : Int} (h : ItB.Ok hi lo id par nm st en ats rv) : Itm.rightSpan hi lo id nm st en ats rv = true := by
 unfold Itm.rightSpan
 rw [h.o1, h.f1, h.f2, h.f3, h.f4, h.f5, h.f6, h.f7, h.o3, decide_eq_true (by have := h.o2; omega)]
 rfl
theorem ItB.span (l : List Int) (h : ∀ x ∈ l, 0 ≤ x ∧ x ≤ 255) : ∃ hi lo id par nm st en bad ats rv, telemeterlaw03_Span.f l = some (hi, lo, id, par, nm, st, en, bad, ats, rv) ∧ ItB.Ok hi lo id par nm st en ats rv := by
 refine ⟨_, _, _, _, _, _, _, _, _, _, by unfold telemeterlaw03_Span.f; rw [if_pos (List.all_eq_true.mpr fun x hx => decide_eq_true (h x hx))], ?_⟩
 have b0 := ItB.at_byte l h 0
 have b1 := ItB.at_byte l h 1
 have b2 := ItB.at_byte l h 2
 have b3 := ItB.at_byte l h 3
 have b4 := ItB.at_byte l h 4
 have b5 := ItB.at_byte l h 5
 have b6 := ItB.at_byte l h 6
 have b7 := ItB.at_byte l h 7
 have b8 := ItB.at_byte l h 8
 have b9 := ItB.at_byte l h 9
 have ba := ItB.attrs (Spn.at l) (ItB.at_byte l h 10) (ItB.at_byte l h 11)
 obtain ⟨o1, o2, o3, o4⟩ := ba
 have hn := ItB.nm _ b5
 unfold Spn.rv
 generalize Spn.attrs (Spn.at l) = ats at *
 generalize Spn.at l 0 = x0 at *
 generalize Spn.at l 1 = x1 at *
 generalize Spn.at l 2 = x2 at *
 generalize Spn.at l 3 = x3 at *
 generalize Spn.at l 4 = x4 at *
 generalize Spn.at l 5 = x5 at *
 generalize Spn.at l 6 = x6 at *
 generalize Spn.at l 7 = x7 at *
 generalize Spn.at l 8 = x8 at *
 generalize Spn.at l 9 = x9 at *
 have g0 : IntKind.u64.wrap (x0.tmod 3) = ((x0 % 3).toNat : Int) := by rw [Int.tmod_eq_emod_of_nonneg (by omega), wrap_u64_id (by omega) (by omega)]; omega
 have g4 : IntKind.u64.wrap (x4.tmod 3) = ((x4 % 3).toNat : Int) := by rw [Int.tmod_eq_emod_of_nonneg (by omega), wrap_u64_id (by omega) (by omega)]; omega
 have g1 : IntKind.u64.wrap (IntKind.u64.wrap (IntKind.u64.wrap (IntKind.u64.wrap (x1.tmod 4) * 18014398509481984) + IntKind.u64.wrap x2) + 1) = (((x1 % 4) * 18014398509481984 + x2 + 1).toNat : Int) := by
  rw [Int.tmod_eq_emod_of_nonneg (by omega), wrap_u64_id (n := x1 % 4) (by omega) (by omega), wrap_u64_id (n := x1 % 4 * 18014398509481984) (by omega) (by omega), wrap_u64_id (n := x2) (by omega) (by omega), wrap_u64_id (n := x1 % 4 * 18014398509481984 + x2) (by omega) (by omega), wrap_u64_id (by omega) (by omega)]; omega
 have g3 : IntKind.u64.wrap (IntKind.u64.wrap x3 + 1) = x3 + 1 := by rw [wrap_u64_id (n := x3) (by omega) (by omega), wrap_u64_id (by omega) (by omega)]
 have g6 : wrap64 x6 = x6 := wrap64_id (by omega) (by omega)
 have g7 : wrap64 (wrap64 x6 + wrap64 x7) = x6 + x7 := by rw [g6, wrap64_id (n := x7) (by omega) (by omega), wrap64_id (by omega) (by omega)]
 rw [g0, g1, g3, g4, g7, g6]
 have g9 : 0 ≤ (if x8 > 200 then x9 * 281474976710656 + 1 else 0) ∧ (if x8 > 200 then x9 * 281474976710656 + 1 else 0) ≤ (72057594037927936 : Int) := by split <;> omega
 generalize (if x8 > 200 then x9 * 281474976710656 + 1 else 0) = rv at *
 refine ⟨bne_iff_ne.mpr (ItB.or_ne _ _ (by omega) (by omega) (by omega)), bne_iff_ne.mpr (by omega), hn.1, ?_, ?_, decide_eq_true (by omega), decide_eq_true g9.2, o1, o2, o3, o4, hn.2.1, by omega, by omega, by omega, by omega, by omega, by omega, by omega⟩
 ·unfold Itm.timeB; rw [decide_eq_true (by omega), decide_eq_true (by omega)]; rfl
 ·unfold Itm.timeB; rw [decide_eq_true (by omega), decide_eq_true (by omega)]; rfl
/-- A log as Log tells it. -/
structure ItB.LOk (k : ByteArray) (wt t : Int) (b : ByteArray) : Prop where
 f1 : Itm.nameB k = true
 f2 : 1 ≤ wt ∧ wt ≤ 256
 f3 : 0 ≤ t ∧ t ≤ 255
 f4 : b.size ≤ 100
 f5 : k.size ≤ 60
theorem ItB.LOk.right {k : ByteArray} {wt t : Int} {b : ByteArray} (h : ItB.LOk k wt t b) : Itm.rightLog k wt t b = true := by
 have h2 := h.f2; have h3 := h.f3; have h4 := h.f4
 unfold Itm.rightLog Itm.timeB
 rw [h.f1, decide_eq_true (by omega), decide_eq_true (by omega), decide_eq_true (by omega), decide_eq_true (by omega), decide_eq_true (by omega)]
 rfl
theorem ItB.lat_byte (l : List Int) (h : ∀ x ∈ l, 0 ≤ x ∧ x ≤ 255) (j : Nat) : 0 ≤ Lg.at l j ∧ Lg.at l j ≤ 255 := by
 unfold Lg.at Lg.fin
 by_cases hj : j < (Lg.row l (min l.length 4)).length
 ·exact Spn.getD_byte _ (Lg.row_bytes l _ h) j hj
 ·rw [List.getD_eq_getElem?_getD, List.getElem?_eq_none (by omega)]; exact ⟨Int.le_refl _, by decide⟩
theorem ItB.four_size (k : Nat) : (Lg.four k).size ≤ 100 := by
 match k with
 | 0 => decide
 | 1 => decide
 | 2 => decide
 | 3 => decide
 | n + 4 => show (0 : Nat) ≤ 100; omega
theorem ItB.log (l : List Int) (h : ∀ x ∈ l, 0 ≤ x ∧ x ≤ 255) : ∃ k wt t b, telemeterlaw03_Log.f l = some (k, wt, t, b) ∧ ItB.LOk k wt t b := by
 refine ⟨_, _, _, _, by unfold telemeterlaw03_Log.f; rw [if_pos (List.all_eq_true.mpr fun x hx => decide_eq_true (h x hx))], ?_⟩
 have b0 := ItB.lat_byte l h 0
 have b1 := ItB.lat_byte l h 1
 have b2 := ItB.lat_byte l h 2
 have hn := ItB.nm _ b0
 refine ⟨hn.1, ?_, ?_, ItB.four_size _, hn.2.1⟩
 ·rw [wrap_u64_id (n := Lg.at l 1) (by omega) (by omega), wrap_u64_id (by omega) (by omega)]; omega
 ·rw [wrap64_id (by omega) (by omega)]; omega
end Go.Proofs.Ytfapckmobeppnaa.Px
