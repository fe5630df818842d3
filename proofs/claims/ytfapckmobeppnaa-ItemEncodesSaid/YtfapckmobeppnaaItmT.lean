/- Decode tells of all bytes: an item that may be, of which they are the bytes, or none. -/
import Derived.Test.YtfapckmobeppnaaItmV
namespace Go.Proofs.Ytfapckmobeppnaa.Px
open Go.RowKit Go.Proofs.YtfapckmobeppnaaW.PrintWords Go.Proofs.YtfapckmobeppnaaW.PrintLast Go.Proofs.YtfapckmobeppnaaW.PrintMore
set_option linter.unusedVariables false
set_option linter.unusedSimpArgs false

structure ItX.Inv (q : Nat) (x : Itm.It) : Prop where
 h1 : 0 ≤ x.hi ∧ x.hi < 18446744073709551616
 h2 : 0 ≤ x.lo ∧ x.lo < 18446744073709551616
 h3 : 0 ≤ x.id ∧ x.id < 18446744073709551616
 h4 : 0 ≤ x.par ∧ x.par < 18446744073709551616
 h5 : 0 ≤ x.rv ∧ x.rv < 18446744073709551616
 h6 : 0 ≤ x.wt ∧ x.wt < 18446744073709551616
 h7 : x.nm.size ≤ 100000
 h8 : x.k.size ≤ 100000
 h9 : x.ats.length ≤ q
 h10 : ∀ a ∈ x.ats, a.f0.size ≤ 100000
theorem ItX.Inv.mono {q q' : Nat} {x : Itm.It} (i : ItX.Inv q x) (h : q ≤ q') : ItX.Inv q' x := ⟨i.h1, i.h2, i.h3, i.h4, i.h5, i.h6, i.h7, i.h8, Nat.le_trans i.h9 h, i.h10⟩
theorem ItX.field_total (L : List Int) (hb : bytesP L) (hl : L.length ≤ 100000) (q : Nat) : Itm.fieldF L (q : Int) = some none ∨ ∃ no n s tx q', Itm.fieldF L (q : Int) = some (some (no, n, s, tx, ((q' : Nat) : Int))) ∧ q < q' ∧ q' ≤ L.length ∧ (0 ≤ n ∧ n < 18446744073709551616) ∧ s.size ≤ 4096 := by
 obtain ⟨t, p, e, hg, h⟩ := ItX.get_total L hb (by omega) q
 unfold Itm.fieldF
 rw [hg, Option.bind_some]
 dsimp only
 rcases h with ⟨rfl, h1, h2, h3, h4, h5⟩ | ⟨rfl, rfl, he⟩
 ·rw [if_pos rfl, if_pos ⟨h1, h2⟩, ItX.and_one_i h1 h2]
  by_cases c : t % 2 = 1
  ·rw [if_pos c]
   obtain ⟨s, q2, e2, hg2, h⟩ := ItX.getText_total L hb (by omega) p 4096 (by decide) (by decide)
   rw [hg2, Option.bind_some]
   dsimp only
   rcases h with ⟨rfl, k1, k2, k3, k4⟩ | ⟨he, _⟩
   ·rw [if_pos rfl]
    exact .inr ⟨t / 2, 0, s, true, q2.toNat, by rw [Int.toNat_of_nonneg (by omega)], by omega, by omega, by omega, by omega⟩
   ·rw [if_neg he]
    exact .inl rfl
  ·rw [if_neg c, if_pos (by omega)]
   obtain ⟨n, q2, e2, hg2, h⟩ := ItX.get_total L hb (by omega) p
   rw [hg2, Option.bind_some]
   dsimp only
   rcases h with ⟨rfl, k1, k2, k3, k4, k5⟩ | ⟨_, _, he⟩
   ·rw [if_pos rfl]
    exact .inr ⟨t / 2, n, ⟨#[]⟩, false, q2.toNat, by rw [Int.toNat_of_nonneg (by omega)], by omega, by omega, ⟨k1, k2⟩, by decide⟩
   ·rw [if_neg (by omega)]
    exact .inl rfl
 ·rw [if_neg (by omega)]
  exact .inl rfl
theorem ItX.put_total (x : Itm.It) (no n : Int) (s : ByteArray) (q : Nat) (i0 : ItX.Inv q x) (hn : 0 ≤ n ∧ n < 18446744073709551616) (hs : s.size ≤ 4096) (hq : q ≤ 100000) : ∃ x', Itm.putF x no n s = some x' ∧ ItX.Inv (q + 1) x' := by
 have i := i0.mono (Nat.le_succ q)
 unfold Itm.putF
 rw [if_pos (by omega)]
 by_cases hk : x.kd = 1
 ·rw [if_pos hk]
  by_cases c1 : no = 1
  ·rw [if_pos c1]; exact ⟨_, rfl, ⟨hn, i.h2, i.h3, i.h4, i.h5, i.h6, i.h7, i.h8, i.h9, i.h10⟩⟩
  rw [if_neg c1]
  by_cases c2 : no = 2
  ·rw [if_pos c2]; exact ⟨_, rfl, ⟨i.h1, hn, i.h3, i.h4, i.h5, i.h6, i.h7, i.h8, i.h9, i.h10⟩⟩
  rw [if_neg c2]
  by_cases c3 : no = 3
  ·rw [if_pos c3]; exact ⟨_, rfl, ⟨i.h1, i.h2, hn, i.h4, i.h5, i.h6, i.h7, i.h8, i.h9, i.h10⟩⟩
  rw [if_neg c3]
  by_cases c4 : no = 4
  ·rw [if_pos c4]; exact ⟨_, rfl, ⟨i.h1, i.h2, i.h3, hn, i.h5, i.h6, i.h7, i.h8, i.h9, i.h10⟩⟩
  rw [if_neg c4]
  by_cases c5 : no = 5
  ·rw [if_pos c5]; exact ⟨_, rfl, ⟨i.h1, i.h2, i.h3, i.h4, i.h5, i.h6, by show s.size ≤ 100000; omega, i.h8, i.h9, i.h10⟩⟩
  rw [if_neg c5]
  by_cases c6 : no = 6
  ·rw [if_pos c6]; exact ⟨_, rfl, ⟨i.h1, i.h2, i.h3, i.h4, i.h5, i.h6, i.h7, i.h8, i.h9, i.h10⟩⟩
  rw [if_neg c6]
  by_cases c7 : no = 7
  ·rw [if_pos c7]; exact ⟨_, rfl, ⟨i.h1, i.h2, i.h3, i.h4, i.h5, i.h6, i.h7, i.h8, i.h9, i.h10⟩⟩
  rw [if_neg c7]
  by_cases c8 : no = 8
  ·rw [if_pos c8]; exact ⟨_, rfl, ⟨i.h1, i.h2, i.h3, i.h4, i.h5, i.h6, i.h7, i.h8, i.h9, i.h10⟩⟩
  rw [if_neg c8]
  by_cases c9 : no = 9
  ·rw [if_pos c9]; exact ⟨_, rfl, ⟨i.h1, i.h2, i.h3, i.h4, hn, i.h6, i.h7, i.h8, i.h9, i.h10⟩⟩
  rw [if_neg c9]
  by_cases c10 : no = 10
  ·rw [if_pos c10]
   obtain ⟨k, u, e, hg, h⟩ := ItX.getText_total (bytesOf s) (bytesOf_bytes s) (by rw [bytesOf_len]; omega) 0 60 (by decide) (by decide)
   rw [hg, Option.bind_some]
   dsimp only
   rw [bytesOf_len] at h
   rcases h with ⟨rfl, k1, k2, k3, k4⟩ | ⟨he, _⟩
   ·have i9 := i0.h9
    rw [if_pos rfl, if_pos ⟨⟨by omega, k4⟩, by omega⟩]
    refine ⟨_, rfl, ⟨i.h1, i.h2, i.h3, i.h4, i.h5, i.h6, i.h7, i.h8, by show (x.ats ++ [_]).length ≤ q + 1; rw [List.length_append, List.length_singleton]; omega, fun a ha => ?_⟩⟩
    rcases List.mem_append.mp ha with ha | ha
    ·exact i.h10 a ha
    ·obtain rfl := List.mem_singleton.mp ha
     show k.size ≤ 100000
     omega
   ·rw [if_neg he]
    exact ⟨_, rfl, i⟩
  rw [if_neg c10]
  exact ⟨_, rfl, i⟩
 ·rw [if_neg hk]
  by_cases c1 : no = 1
  ·rw [if_pos c1]; exact ⟨_, rfl, ⟨i.h1, i.h2, i.h3, i.h4, i.h5, i.h6, i.h7, by show s.size ≤ 100000; omega, i.h9, i.h10⟩⟩
  rw [if_neg c1]
  by_cases c2 : no = 2
  ·rw [if_pos c2]; exact ⟨_, rfl, ⟨i.h1, i.h2, i.h3, i.h4, i.h5, hn, i.h7, i.h8, i.h9, i.h10⟩⟩
  rw [if_neg c2]
  by_cases c3 : no = 3
  ·rw [if_pos c3]; exact ⟨_, rfl, ⟨i.h1, i.h2, i.h3, i.h4, i.h5, i.h6, i.h7, i.h8, i.h9, i.h10⟩⟩
  rw [if_neg c3]
  by_cases c4 : no = 4
  ·rw [if_pos c4]; exact ⟨_, rfl, ⟨i.h1, i.h2, i.h3, i.h4, i.h5, i.h6, i.h7, i.h8, i.h9, i.h10⟩⟩
  rw [if_neg c4]
  exact ⟨_, rfl, i⟩
theorem ItX.parse_total (L : List Int) (hb : bytesP L) (hl : L.length ≤ 100000) : ∀ (d k q : Nat) (x : Itm.It), L.length - q ≤ d → d < k → q ≤ L.length → ItX.Inv q x → ∃ o, Itm.parse k L (q : Int) x = some o ∧ ∀ x', o = some x' → ItX.Inv 100000 x'
 | d, 0, q, x, h1, h2, h3, i => absurd h2 (by omega)
 | d, k + 1, q, x, h1, h2, h3, i => by
  by_cases hq : q < L.length
  ·rcases ItX.field_total L hb hl q with h | ⟨no, n, s, tx, q', h, g1, g2, g3, g4⟩
   ·rw [Itm.parse, if_pos (by omega), h, Option.bind_some]
    exact ⟨none, rfl, fun x' hx => by cases hx⟩
   ·obtain ⟨x', hp, i'⟩ := ItX.put_total x no n s q i g3 g4 (by omega)
    rw [ItX.parse_step hq h hp]
    match d, h1, h2 with
    | 0, h1, h2 => omega
    | d + 1, h1, h2 => exact ItX.parse_total L hb hl d k q' x' (by omega) (by omega) g2 (i'.mono g1)
  ·rw [Itm.parse, if_neg (by omega)]
   exact ⟨some x, rfl, fun x' hx => by cases hx; exact i.mono (by omega)⟩
theorem ItO.small {x : Itm.It} {L : List Int} (h : ItX.enc x = some (L, 0)) : ((0 ≤ x.hi ∧ x.hi < 18446744073709551616) ∧ (0 ≤ x.lo ∧ x.lo < 18446744073709551616) ∧ (0 ≤ x.id ∧ x.id < 18446744073709551616) ∧ (0 ≤ x.par ∧ x.par < 18446744073709551616) ∧ (0 ≤ x.rv ∧ x.rv < 18446744073709551616) ∧ (0 ≤ x.wt ∧ x.wt < 18446744073709551616)) ∧
  (x.nm.size ≤ 60 ∧ x.k.size ≤ 60 ∧ x.ats.length ≤ 8 ∧ ∀ a ∈ x.ats, a.f0.size ≤ 60) ∧
  ((Itm.rightSpan x.hi x.lo x.id x.nm x.st x.en x.ats x.rv = true ∧ Itm.rightLog x.k x.wt x.t x.b = false) ∨ (Itm.rightSpan x.hi x.lo x.id x.nm x.st x.en x.ats x.rv = false ∧ Itm.rightLog x.k x.wt x.t x.b = true)) := by
 obtain ⟨kd, hi, lo, id, par, nm, st, en, bad, ats, rv, k, wt, t, b⟩ := x
 unfold ItX.enc item_Encode.f at h
 dsimp only at h ⊢
 by_cases hg : Itm.enG hi lo id par nm ats rv k wt = true
 ·rw [if_pos hg] at h
  unfold Itm.enG at hg
  simp only [Bool.and_eq_true, Itm.u64B_iff, Itm.bigB_iff, List.all_eq_true] at hg
  obtain ⟨g1, g2, g3, g4, g5, g6, g7, g8, g9⟩ := hg
  refine ⟨⟨g1, g2, g3, g4, g5, g6⟩, ?_⟩
  by_cases h1 : kd = 1
  ·rw [if_pos h1] at h
   by_cases hs : Itm.rightSpan hi lo id nm st en ats rv = true ∧ (k.toList = [] ∧ wt = 0 ∧ t = 0 ∧ b.toList = [])
   ·obtain ⟨hs, z1, rfl, rfl, z4⟩ := hs
    obtain rfl := Itm.size_nil z1
    obtain ⟨p1, p2, p3, p4, p5⟩ := Itm.right_parts hs
    exact ⟨⟨p1, by decide, p4, fun a ha => (p5 a ha).1⟩, .inl ⟨hs, by unfold Itm.rightLog; simp⟩⟩
   ·rw [if_neg hs] at h
    simp at h
  ·rw [if_neg h1] at h
   by_cases h2 : kd = 2
   ·rw [if_pos h2] at h
    by_cases hs : Itm.rightLog k wt t b = true ∧ item_empty.f hi lo id par nm st en bad ats rv = some true
    ·obtain ⟨hs, hz⟩ := hs
     obtain ⟨p1, p2, p3, p4⟩ := Itm.log_parts hs
     obtain ⟨rfl, rfl, rfl, rfl, rfl, rfl, rfl, rfl, rfl, rfl⟩ := ItX.empty_inv g1 g2 g3 g4 g5 hz
     exact ⟨⟨by decide, p1, by decide, fun a ha => by cases ha⟩, .inr ⟨by unfold Itm.rightSpan; simp, hs⟩⟩
    ·rw [if_neg hs] at h
     simp at h
   ·rw [if_neg h2] at h
    simp at h
 ·rw [if_neg hg] at h; cases h
end Go.Proofs.Ytfapckmobeppnaa.Px
