/- Decode tells of all bytes: an item that may be, of which they are the bytes, or none. -/
import Derived.Test.YtfapckmobeppnaaItmV
namespace Go.Proofs.Ytfapckmobeppnaa.Px
open Go.RowKit Go.Proofs.YtfapckmobeppnaaW.PrintWords Go.Proofs.YtfapckmobeppnaaW.PrintLast Go.Proofs.YtfapckmobeppnaaW.PrintMore
set_option linter.unusedVariables false
set_option linter.unusedSimpArgs false

structure ItX.Inv (q : Nat) (x : Itm.It) : Prop where
 h1 : 0 ≤ x.hi ∧ x.hi < 18446744073709551616
 h2 : 0 ≤ x.lo ∧ x.lo < 18446744073709551616
 h3 : 0 ≤ x.id ∧ x.id < 18446744073709551616
 h4 : 0 ≤ x.par ∧ x.par < 18446744073709551616
 h5 : 0 ≤ x.rv ∧ x.rv < 18446744073709551616
 h6 : 0 ≤ x.wt ∧ x.wt < 18446744073709551616
 h7 : x.nm.size ≤ 100000
 h8 : x.k.size ≤ 100000
 h9 : x.ats.length ≤ q
 h10 : ∀ a ∈ x.ats, a.f0.size ≤ 100000
theorem ItX.Inv.mono {q q' : Nat} {x : Itm.It} (i : ItX.Inv q x) (h : q ≤ q') : ItX.Inv q' x := ⟨i.h1, i.h2, i.h3, i.h4, i.h5, i.h6, i.h7, i.h8, Nat.le_trans i.h9 h, i.h10⟩
theorem ItX.field_total (L : List Int) (hb : bytesP L) (hl : L.length ≤ 100000) (q : Nat) : Itm.fieldF L (q : Int) = some none ∨ ∃ no n s tx q', Itm.fieldF L (q : Int) = some (some (no, n, s, tx, ((q' : Nat) : Int))) ∧ q < q' ∧ q' ≤ L.length ∧ (0 ≤ n ∧ n < 18446744073709551616) ∧ s.size ≤ 4096 := by
 obtain ⟨t, p, e, hg, h⟩ := ItX.get_total L hb (by omega) q
 unfold Itm.fieldF
 rw [hg, Option.bind_some]
 dsimp only
 rcases h with ⟨rfl, h1, h2, h3, h4, h5⟩ | ⟨rfl, rfl, he⟩
 ·rw [if_pos rfl, if_pos ⟨h1, h2⟩, ItX.and_one_i h1 h2]
  by_cases c : t % 2 = 1
  ·rw [if_pos c]
   obtain ⟨s, q2, e2, hg2, h⟩ := ItX.getText_total L hb (by omega) p 4096 (by decide) (by decide)
   rw [hg2, Option.bind_some]
   dsimp only
   rcases h with ⟨rfl, k1, k2, k3, k4⟩ | ⟨he, _⟩
   ·rw [if_pos rfl]
    exact .inr ⟨t / 2, 0, s, true, q2.toNat, by rw [Int.toNat_of_nonneg (by omega)], by omega, by omega, by omega, by omega⟩
   ·rw [if_neg he]
    exact .inl rfl
  ·rw [if_neg c, if_pos (by omega)]
   obtain ⟨n, q2, e2, hg2, h⟩ := ItX.get_total L hb (by omega) p
   rw [hg2, Option.bind_some]
   dsimp only
   rcases h with ⟨rfl, k1, k2, k3, k4, k5⟩ | ⟨_, _, he⟩
   ·rw [if_pos rfl]
    exact .inr ⟨t / 2, n, ⟨#[]⟩, false, q2.toNat, by rw [Int.toNat_of_nonneg (by omega)], by omega, by omega, ⟨k1, k2⟩, by decide⟩
   ·rw [if_neg (by omega)]
    exact .inl rfl
 ·rw [if_neg (by omega)]
  exact .inl rfl
theorem ItX.put_total (x : Itm.It) (no n : Int) (s : ByteArray) (q : Nat) (i0 : ItX.Inv q x) (hn : 0 ≤ n ∧ n < 18446744073709551616) (hs : s.size ≤ 4096) (hq : q ≤ 100000) : ∃ x', Itm.putF x no n s = some x' ∧ ItX.Inv (q + 1) x' := by
 have i := i0.mono (Nat.le_succ q)
 unfold Itm.putF
 rw [if_pos (by omega)]
 by_cases hk : x.kd = 1
 ·rw [if_pos hk]
  by_cases c1 : no = 1
  ·rw [if_pos c1]; exact ⟨_, rfl, ⟨hn, i.h2, i.h3, i.h4, i.h5, i.h6, i.h7, i.h8, i.h9, i.h10⟩⟩
  rw [if_neg c1]
  by_cases c2 : no = 2
  ·rw [if_pos c2]; exact ⟨_, rfl, ⟨i.h1, hn, i.h3, i.h4, i.h5, i.h6, i.h7, i.h8, i.h9, i.h10⟩⟩
  rw [if_neg c2]
  by_cases c3 : no = 3
  ·rw [if_pos c3]; exact ⟨_, rfl, ⟨i.h1, i.h2, hn, i.h4, i.h5, i.h6, i.h7, i.h8, i.h9, i.h10⟩⟩
  rw [if_neg c3]
  by_cases c4 : no = 4
  ·rw [if_pos c4]; exact ⟨_, rfl, ⟨i.h1, i.h2, i.h3, hn, i.h5, i.h6, i.h7, i.h8, i.h9, i.h10⟩⟩
  rw [if_neg c4]
  by_cases c5 : no = 5
  ·rw [if_pos c5]; exact ⟨_, rfl, ⟨i.h1, i.h2, i.h3, i.h4, i.h5, i.h6, by show s.size ≤ 100000; omega, i.h8, i.h9, i.h10⟩⟩
  rw [if_neg c5]
  by_cases c6 : no = 6
  ·rw [if_pos c6]; exact ⟨_, rfl, ⟨i.h1, i.h2, i.h3, i.h4, i.h5, i.h6, i.h7, i.h8, i.h9, i.h10⟩⟩
  rw [if_neg c6]
  by_cases c7 : no = 7
  ·rw [if_pos c7]; exact ⟨_, rfl, ⟨i.h1, i.h2, i.h3, i.h4, i.h5, i.h6, i.h7, i.h8, i.h9, i.h10⟩⟩
  rw [if_neg c7]
  by_cases c8 : no = 8
  ·rw [if_pos c8]; exact ⟨_, rfl, ⟨i.h1, i.h2, i.h3, i.h4, i.h5, i.h6, i.h7, i.h8, i.h9, i.h10⟩⟩
  rw [if_neg c8]
  by_cases c9 : no = 9
  ·rw [if_pos c9]; exact ⟨_, rfl, ⟨i.h1, i.h2, i.h3, i.h4, hn, i.h6, i.h7, i.h8, i.h9, i.h10⟩⟩
  rw [if_neg c9]
  by_cases c10 : no = 10
  ·rw [if_pos c10]
   obtain ⟨k, u, e, hg, h⟩ := ItX.getText_total (bytesOf s) (bytesOf_bytes s) (by rw [bytesOf_len]; omega) 0 60 (by decide) (by decide)
   rw [hg, Option.bind_some]
   dsimp only
   rw [bytesOf_len] at h
   rcases h with ⟨rfl, k1, k2, k3, k4⟩ | ⟨he, _⟩
   ·have i9 := i0.h9
    rw [if_pos rfl, if_pos ⟨⟨by omega, k4⟩, by omega⟩]
    refine ⟨_, rfl, ⟨i.h1, i.h2, i.h3, i.h4, i.h5, i.h6, i.h7, i.h8, by show (x.ats ++ [_]).length ≤ q + 1; rw [List.length_append, List.length_singleton]; omega, fun a ha => ?_⟩⟩
    rcases List.mem_append.mp ha with ha | ha
    ·exact i.h10 a ha
    ·obtain rfl := List.mem_singleton.mp ha
     show k.size ≤ 100000
     omega
   ·rw [if_neg he]
    exact ⟨_, rfl, i⟩
  rw [if_neg c10]
  exact ⟨_, rfl, i⟩
 ·rw [if_neg hk]
  by_cases c1 : no = 1
  ·rw [if_pos c1]; exact ⟨_, rfl, ⟨i.h1, i.h2, i.h3, i.h4, i.h5, i.h6, i.h7, by show s.size ≤ 100000; omega, i.h9, i.h10⟩⟩
  rw [if_neg c1]
  by_cases c2 : no = 2
  ·rw [if_pos c2]; exact ⟨_, rfl, ⟨i.h1, i.h2, i.h3, i.h4, i.h5, hn, i.h7, i.h8, i.h9, i.h10⟩⟩
  rw [if_neg c2]
  by_cases c3 : no = 3
  ·rw [if_pos c3]; exact ⟨_, rfl, ⟨i.h1, i.h2, i.h3, i.h4, i.h5, i.h6, i.h7, i.h8, i.h9, i.h10⟩⟩
  rw [if_neg c3]
  by_cases c4 : no = 4
  ·rw [if_pos c4]; exact ⟨_, rfl, ⟨i.h1, i.h2, i.h3, i.h4, i.h5, i.h6, i.h7, i.h8, i.h9, i.h10⟩⟩
  rw [if_neg c4]
  exact ⟨_, rfl, i⟩
theorem ItX.parse_total (L : List Int) (hb : bytesP L) (hl : L.length ≤ 100000) : ∀ (d k q : Nat) (x : Itm.It), L.length - q ≤ d → d < k → q ≤ L.length → ItX.Inv q x → ∃ o, Itm.parse k L (q : Int) x = some o ∧ ∀ x', o = some x' → ItX.Inv 100000 x'
 | d, 0, q, x, h1, h2, h3, i => absurd h2 (by omega)
 | d, k + 1, q, x, h1, h2, h3, i => by
  by_cases hq : q < L.length
  ·rcases ItX.field_total L hb hl q with h | ⟨no, n, s, tx, q', h, g1, g2, g3, g4⟩
   ·rw [Itm.parse, if_pos (by omega), h, Option.bind_some]
    exact ⟨none, rfl, fun x' hx => by cases hx⟩
   ·obtain ⟨x', hp, i'⟩ := ItX.put_total x no n s q i g3 g4 (by omega)
    rw [ItX.parse_step hq h hp]
    match d, h1, h2 with
    | 0, h1, h2 => omega
    | d + 1, h1, h2 => exact ItX.parse_total L hb hl d k q' x' (by omega) (by omega) g2 (i'.mono g1)
  ·rw [Itm.parse, if_neg (by omega)]
   exact ⟨some x, rfl, fun x' hx => by cases hx; exact i.mono (by omega)⟩
theorem ItX.enc_total (x : Itm.It) (i : ItX.Inv 100000 x) : ∃ L e, ItX.enc x = some (L, e) ∧ (e = 0 ∨ e = 40) := by
 unfold ItX.enc item_Encode.f
 rw [if_pos (ItX.enG i.h1 i.h2 i.h3 i.h4 i.h5 i.h6 i.h7 i.h8 i.h10)]
 split
 ·split
  ·exact ⟨_, _, rfl, .inl rfl⟩
  ·exact ⟨_, _, rfl, .inr rfl⟩
 ·split
  ·split
   ·exact ⟨_, _, rfl, .inl rfl⟩
   ·exact ⟨_, _, rfl, .inr rfl⟩
  ·exact ⟨_, _, rfl, .inr rfl⟩
/-- What Decode tells of any bytes. -/
theorem ItX.dec_total (L : List Int) (hb : bytesP L) (hl : L.length ≤ 100000) : ∃ x e, Itm.dec L = some (x, e) ∧ (e = 0 ∧ ItX.enc x = some (L, 0) ∨ e = 40 ∧ x = Itm.It.z) := by
 unfold Itm.dec
 by_cases h0 : L.length = 0
 ·rw [if_pos h0]
  exact ⟨_, _, rfl, .inr ⟨rfl, rfl⟩⟩
 ·rw [if_neg h0]
  have z0 : (0 : Int) ≤ 0 ∧ (0 : Int) < 18446744073709551616 := by decide
  have iz : ItX.Inv 1 { Itm.It.z with kd := rd L 0 } := ⟨z0, z0, z0, z0, z0, z0, by show (0 : Nat) ≤ _; omega, by show (0 : Nat) ≤ _; omega, Nat.zero_le _, fun a ha => by cases ha⟩
  obtain ⟨o, ho, hi⟩ := ItX.parse_total L hb hl (L.length - 1) (L.length + 1) 1 _ (by omega) (by omega) (by omega) iz
  rw [Int.natCast_one] at ho
  rw [ho, Option.bind_some]
  unfold Itm.fin
  cases o with
  | none => exact ⟨_, _, rfl, .inr ⟨rfl, rfl⟩⟩
  | some x =>
   obtain ⟨L', e, he, h⟩ := ItX.enc_total x (hi x rfl)
   have he2 := he
   unfold ItX.enc at he2
   dsimp only
   rw [he2, Option.bind_some]
   dsimp only
   rcases h with rfl | rfl
   ·rw [if_pos rfl]
    unfold bytes_Equal.f
    rw [Option.bind_some]
    by_cases hq : ((strOfNums L').toList == (strOfNums L).toList) = true
    ·rw [if_pos hq]
     have hq2 : (strOfNums L').toList = (strOfNums L).toList := by simpa using hq
     rw [ByteArray.toList_eq, ByteArray.toList_eq] at hq2
     obtain ⟨hb', _⟩ := ItX.enc_reach x L' he
     obtain rfl := strOfNums_bytes hb' hb hq2
     exact ⟨_, _, rfl, .inl ⟨rfl, he⟩⟩
    ·rw [if_neg hq]
     exact ⟨_, _, rfl, .inr ⟨rfl, rfl⟩⟩
   ·rw [if_neg (by decide)]
    exact ⟨_, _, rfl, .inr ⟨rfl, rfl⟩⟩
end Go.Proofs.Ytfapckmobeppnaa.Px
