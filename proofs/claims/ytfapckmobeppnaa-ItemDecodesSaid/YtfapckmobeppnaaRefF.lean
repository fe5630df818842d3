/- The document's fields of bytes, and what comes of them: what Decode of the package reads, field by field. -/
import Derived.Test.YtfapckmobeppnaaRefG
import Derived.Test.YtfapckmobeppnaaItmT
import Derived.Test.YtfapckmobeppnaaPx47
namespace Go.Proofs.Ytfapckmobeppnaa.Px
open Go.RowKit Go.Proofs.YtfapckmobeppnaaW.PrintWords Go.Proofs.YtfapckmobeppnaaW.PrintLast Go.Proofs.YtfapckmobeppnaaW.PrintMore
set_option linter.unusedVariables false
set_option linter.unusedSimpArgs false

abbrev RfF.Fd := S94
theorem RfF.getText_eq (l : List Int) (hb : bytesP l) (hl : l.length ≤ 140737488355328) (p m : Int) (hm : 0 ≤ m ∧ m < 9223372036854775808) (k : Nat) (hk : 23 ≤ k) : telemeterref01_GetText.f k l p m = num_GetText.f l p m := by
 obtain ⟨n, q, e, hg, hc⟩ := ItX.get_total l hb hl p
 unfold telemeterref01_GetText.f
 rw [refGet_eq l hb hl p k (by omega), hg, Option.bind_some]
 dsimp only
 obtain ⟨k, rfl⟩ : ∃ j, k = j + 1 := ⟨k - 1, by omega⟩
 rcases hc with ⟨rfl, h1, h2, h3, h4, h5⟩ | ⟨_, _, h⟩
 ·rw [if_pos rfl, ItX.getText_eq hg h1 h2 (by omega) h5 hm.2 hl]
  have ew : IntKind.u64.wrap m = m := wrap_u64_id (by omega) (by omega)
  rw [if_neg (by omega), if_neg (by omega), ew]
  by_cases c2 : m < n
  ·rw [if_pos c2, show decide (n > m) = true from decide_eq_true c2, telemeterref01_GetText.j0, if_pos rfl]
  ·have e1 : IntKind.u64.wrap (wrap64 ((l.length : Int) - q)) = (l.length : Int) - q := by rw [wrap64_id (by omega) (by omega), wrap_u64_id (by omega) (by omega)]
   rw [if_neg c2, show decide (n > m) = false from decide_eq_false c2, telemeterref01_GetText.j0, if_neg (by decide), e1]
   by_cases c3 : (l.length : Int) - q < n
   ·rw [if_pos c3, if_pos c3]
   ·have e2 : wrap64 (q + wrap64 n) = q + n := by rw [wrap64_id (n := n) (by omega) (by omega), wrap64_id (by omega) (by omega)]
    rw [if_neg c3, if_neg c3, e2, if_pos (by omega), if_pos (by omega), if_pos (by omega), List.drop_take, show (q + n).toNat - q.toNat = n.toNat from by omega]
 ·rw [if_neg (by omega), ItX.getText_err hg (by omega)]
theorem RfF.getR_shift (r : List Int) (p : Int) : ((getR r p).2.2 = 0 ∧ getR r (p + 1) = ((getR r p).1, (getR r p).2.1 + 1, 0)) ∨ ((getR r p).2.2 ≠ 0 ∧ getR r (p + 1) = getR r p) := by
 unfold getR
 cases stopL (r.take 10) with
 | none => dsimp only; split <;> simp
 | some i =>
  dsimp only
  split
  ·simp
  ·refine .inl ⟨rfl, ?_⟩
   simp only [Prod.mk.injEq, true_and, and_true]
   omega
theorem RfF.get_shift (kd : Int) (t : List Int) (hb : bytesP (kd :: t)) (hl : t.length ≤ 100000) (p : Nat) (hp : p ≤ t.length) :
  (∃ (n : Int) (q : Nat), num_Get.f t (p : Int) = some (n, (q : Int), 0) ∧ num_Get.f (kd :: t) ((p : Int) + 1) = some (n, ((q + 1 : Nat) : Int), 0) ∧ (0 ≤ n ∧ n < 18446744073709551616) ∧ p < q ∧ q ≤ t.length) ∨
  ∃ (n q n' q' e : Int), num_Get.f t (p : Int) = some (n, q, e) ∧ num_Get.f (kd :: t) ((p : Int) + 1) = some (n', q', e) ∧ e ≠ 0 := by
 have hbt : bytesP t := fun x hx => hb x (List.mem_cons_of_mem _ hx)
 have g1 := get_eq t p hbt (by omega) (by omega) (by omega)
 have g2 := get_eq (kd :: t) ((p : Int) + 1) hb (by rw [List.length_cons]; omega) (by omega) (by rw [List.length_cons]; omega)
 rw [show ((p : Int) + 1).toNat = p + 1 from by omega, List.drop_succ_cons] at g2
 rw [Int.toNat_natCast] at g1
 obtain ⟨n, q, e, hg, hc⟩ := ItX.get_total t hbt (by omega) p
 rw [g1] at hg
 injection hg with hg
 rcases RfF.getR_shift (t.drop p) p with ⟨h0, h1⟩ | ⟨h0, h1⟩
 ·rw [h1] at g2
  rw [hg] at h0 g2 g1
  dsimp only at h0
  subst h0
  rcases hc with ⟨_, c1, c2, c3, c4, c5⟩ | ⟨_, _, c⟩
  ·refine .inl ⟨n, q.toNat, by rw [g1, Int.toNat_of_nonneg (by omega)], ?_, ⟨c1, c2⟩, by omega, by omega⟩
   rw [g2]
   simp only [Option.some.injEq, Prod.mk.injEq, true_and, and_true]
   omega
  ·omega
 ·rw [h1] at g2
  rw [hg] at h0 g2 g1
  exact .inr ⟨n, q, n, q, e, g1, g2, h0⟩
theorem RfF.text_shift (kd : Int) (t : List Int) (hb : bytesP (kd :: t)) (hl : t.length ≤ 100000) (p : Nat) (hp : p ≤ t.length) :
  (∃ (s : ByteArray) (q : Nat), num_GetText.f t (p : Int) 4096 = some (s, (q : Int), 0) ∧ num_GetText.f (kd :: t) ((p : Int) + 1) 4096 = some (s, ((q + 1 : Nat) : Int), 0) ∧ s.size ≤ 4096 ∧ p < q ∧ q ≤ t.length) ∨
  ∃ (s : ByteArray) (q : Int) (s' : ByteArray) (q' e : Int), num_GetText.f t (p : Int) 4096 = some (s, q, e) ∧ num_GetText.f (kd :: t) ((p : Int) + 1) 4096 = some (s', q', e) ∧ e ≠ 0 := by
 have hbt : bytesP t := fun x hx => hb x (List.mem_cons_of_mem _ hx)
 obtain ⟨s, q, e, ht, hc⟩ := ItX.getText_total t hbt (by omega) p 4096 (by omega) (by omega)
 rcases RfF.get_shift kd t hb hl p hp with ⟨n, q1, g1, g2, hn, h1, h2⟩ | ⟨n, q1, n', q1', e1, g1, g2, he⟩
 ·have t1 := ItX.getText_eq g1 hn.1 hn.2 (by omega) (by omega) (m := 4096) (by omega) (by omega)
  have t2 := ItX.getText_eq g2 hn.1 hn.2 (by omega) (by rw [List.length_cons]; omega) (m := 4096) (by omega) (by rw [List.length_cons]; omega)
  rw [if_neg (by omega)] at t1 t2
  by_cases c1 : 4096 < n
  ·rw [if_pos c1] at t1 t2
   exact .inr ⟨_, _, _, _, _, t1, t2, by decide⟩
  rw [if_neg c1] at t1 t2
  by_cases c2 : (t.length : Int) - (q1 : Int) < n
  ·rw [if_pos c2] at t1
   rw [if_pos (by rw [List.length_cons]; omega)] at t2
   exact .inr ⟨_, _, _, _, _, t1, t2, by decide⟩
  rw [if_neg c2] at t1
  rw [if_neg (by rw [List.length_cons]; omega), Int.toNat_natCast, List.drop_succ_cons] at t2
  rw [Int.toNat_natCast] at t1
  rw [t1] at ht
  simp only [Option.some.injEq, Prod.mk.injEq] at ht
  obtain ⟨rfl, rfl, rfl⟩ := ht
  rcases hc with ⟨_, k1, k2, k3, k4⟩ | ⟨k, _⟩
  ·refine .inl ⟨_, ((q1 : Int) + n).toNat, by rw [t1, Int.toNat_of_nonneg (by omega)], ?_, by omega, by omega, by omega⟩
   rw [t2]
   simp only [Option.some.injEq, Prod.mk.injEq, true_and, and_true]
   omega
  ·exact absurd rfl k
 ·exact .inr ⟨_, _, _, _, _, ItX.getText_err g1 he, ItX.getText_err g2 he, he⟩
/-- One field: the document reads it where the package does. -/
theorem RfF.step (kd : Int) (t : List Int) (hb : bytesP (kd :: t)) (hl : t.length ≤ 100000) (p : Nat) (hp : p < t.length) (out : List RfF.Fd) (ho : out.length ≤ 100000) (k : Nat) (hk : 24 ≤ k) :
  (Itm.fieldF (kd :: t) ((p : Int) + 1) = some none ∧ telemeterref03_fields.l0 (k + 1) t out (p : Int) = some ([], false)) ∨
  ∃ (no n : Int) (s : ByteArray) (tx : Bool) (tn : Int) (q : Nat), Itm.fieldF (kd :: t) ((p : Int) + 1) = some (some (no, n, s, tx, ((q + 1 : Nat) : Int))) ∧ telemeterref03_fields.l0 (k + 1) t out (p : Int) = telemeterref03_fields.l0 k t (out ++ [⟨no, tn, n, s⟩]) (q : Int) ∧ p < q ∧ q ≤ t.length ∧ (0 ≤ n ∧ n < 18446744073709551616) ∧ s.size ≤ 4096 := by
 have hbt : bytesP t := fun x hx => hb x (List.mem_cons_of_mem _ hx)
 unfold Itm.fieldF
 rw [telemeterref03_fields.l0, if_pos (by omega), refGet_eq t hbt (by omega) _ k (by omega)]
 rcases RfF.get_shift kd t hb hl p (by omega) with ⟨n1, q1, g1, g2, hn, h1, h2⟩ | ⟨n1, q1, n1', q1', e1, g1, g2, he⟩
 ·rw [g1, g2, Option.bind_some, Option.bind_some]
  dsimp only
  have w1 : wrap64 (Int.tmod n1 2) = n1 % 2 := by rw [Int.tmod_eq_emod_of_nonneg hn.1, wrap64_id (by omega) (by omega)]
  have w2 : IntKind.u64.wrap (Int.tdiv n1 2) = n1 / 2 := by rw [Int.tdiv_eq_ediv_of_nonneg hn.1, wrap_u64_id (by omega) (by omega)]
  rw [if_pos rfl, if_pos rfl, if_pos hn, ItX.and_one_i hn.1 hn.2, w1, w2]
  by_cases c : n1 % 2 = 1
  ·rw [if_pos c, if_pos c, RfF.getText_eq t hbt (by omega) _ 4096 (by omega) k (by omega)]
   have cast : (((q1 + 1 : Nat) : Int)) = (q1 : Int) + 1 := by omega
   rw [cast]
   rcases RfF.text_shift kd t hb hl q1 h2 with ⟨s, q, t1, t2, hs, h3, h4⟩ | ⟨s, q, s', q', e, t1, t2, he⟩
   ·rw [t1, t2, Option.bind_some, Option.bind_some]
    dsimp only
    rw [if_pos rfl, if_pos rfl, if_pos (by omega)]
    exact .inr ⟨n1 / 2, 0, s, true, n1 % 2, q, rfl, rfl, by omega, h4, by omega, hs⟩
   ·rw [t1, t2, Option.bind_some, Option.bind_some]
    dsimp only
    rw [if_neg he, if_neg he]
    exact .inl ⟨rfl, rfl⟩
  ·rw [if_neg c, if_neg c, if_pos (by omega), refGet_eq t hbt (by omega) _ k (by omega)]
   have cast : (((q1 + 1 : Nat) : Int)) = (q1 : Int) + 1 := by omega
   rw [cast]
   rcases RfF.get_shift kd t hb hl q1 h2 with ⟨n, q, t1, t2, hn2, h3, h4⟩ | ⟨n, q, n', q', e, t1, t2, he⟩
   ·rw [t1, t2, Option.bind_some, Option.bind_some]
    dsimp only
    rw [if_pos rfl, if_pos rfl, if_pos (by omega)]
    exact .inr ⟨n1 / 2, n, ⟨#[]⟩, false, n1 % 2, q, rfl, rfl, by omega, h4, hn2, by decide⟩
   ·rw [t1, t2, Option.bind_some, Option.bind_some]
    dsimp only
    rw [if_neg he, if_neg he]
    exact .inl ⟨rfl, rfl⟩
 ·rw [g1, g2, Option.bind_some, Option.bind_some]
  dsimp only
  rw [if_neg he, if_neg he]
  exact .inl ⟨rfl, rfl⟩
/-- Fields are put into an item, one behind the other. -/
def RfF.fold : List RfF.Fd → Itm.It → Option Itm.It
 | [], x => some x
 | f :: l, x => (Itm.putF x f.f0 f.f2 f.f3).bind (RfF.fold l)
theorem RfF.sim (kd : Int) (t : List Int) (hb : bytesP (kd :: t)) (hl : t.length + 1 ≤ 100000) : ∀ (d k j p : Nat) (out : List RfF.Fd) (x : Itm.It), t.length - p ≤ d → d < k → d + 25 ≤ j → p ≤ t.length → out.length ≤ p → ItX.Inv (p + 1) x →
  (Itm.parse k (kd :: t) ((p : Int) + 1) x = some none ∧ telemeterref03_fields.l0 j t out (p : Int) = some ([], false)) ∨
  ∃ (x' : Itm.It) (fs : List RfF.Fd), Itm.parse k (kd :: t) ((p : Int) + 1) x = some (some x') ∧ telemeterref03_fields.l0 j t out (p : Int) = some (out ++ fs, true) ∧ RfF.fold fs x = some x' ∧ fs.length ≤ t.length - p ∧ ItX.Inv 100000 x'
 | d, 0, j, p, out, x, h1, h2, h3, h4, h5, i => absurd h2 (by omega)
 | d, k + 1, 0, p, out, x, h1, h2, h3, h4, h5, i => absurd h3 (by omega)
 | d, k + 1, j + 1, p, out, x, h1, h2, h3, h4, h5, i => by
  by_cases hq : p < t.length
  ·rcases RfF.step kd t hb (by omega) p hq out (by omega) j (by omega) with ⟨e1, e2⟩ | ⟨no, n, s, tx, tn, q, e1, e2, g1, g2, g3, g4⟩
   ·rw [Itm.parse, if_pos (by rw [List.length_cons]; omega), e1, Option.bind_some, e2]
    exact .inl ⟨rfl, rfl⟩
   ·obtain ⟨x1, hp, i'⟩ := ItX.put_total x no n s (p + 1) i g3 g4 (by omega)
    have e3 := ItX.parse_step (L := kd :: t) (k := k) (q := p + 1) (by rw [List.length_cons]; omega) e1 hp
    rw [show ((p + 1 : Nat) : Int) = (p : Int) + 1 from by omega] at e3
    rw [e3, e2]
    match d, h1, h2, h3 with
    | 0, h1, h2, h3 => omega
    | d + 1, h1, h2, h3 =>
     have r := RfF.sim kd t hb hl d k j q (out ++ [⟨no, tn, n, s⟩]) x1 (by omega) (by omega) (by omega) g2 (by rw [List.length_append, List.length_singleton]; omega) (i'.mono (by omega))
     rw [show ((q + 1 : Nat) : Int) = (q : Int) + 1 from by omega]
     rcases r with r | ⟨x', fs, r1, r2, r3, r4, r5⟩
     ·exact .inl r
     ·refine .inr ⟨x', ⟨no, tn, n, s⟩ :: fs, r1, ?_, ?_, by rw [List.length_cons]; omega, r5⟩
      ·rw [r2, List.append_assoc]; rfl
      ·rw [RfF.fold, hp, Option.bind_some]; exact r3
  ·rw [Itm.parse, if_neg (by rw [List.length_cons]; omega), telemeterref03_fields.l0, if_neg (by omega)]
   exact .inr ⟨x, [], rfl, by rw [List.append_nil], rfl, Nat.zero_le _, i.mono (by omega)⟩
/-- What the package's Decode tells, by the document's fields. -/
theorem RfF.dec (kd : Int) (t : List Int) (hb : bytesP (kd :: t)) (hl : t.length + 1 ≤ 100000) (y : Itm.It) (e : Int) (hd : Itm.dec (kd :: t) = some (y, e)) :
  (telemeterref03_fields.f (t.length + 25) t = some ([], false) ∧ e = 40 ∧ y = Itm.It.z) ∨
  ∃ (x' : Itm.It) (fs : List RfF.Fd) (M : List Int) (e2 : Int), telemeterref03_fields.f (t.length + 25) t = some (fs, true) ∧ RfF.fold fs { Itm.It.z with kd := kd } = some x' ∧ fs.length ≤ t.length ∧ x'.ats.length ≤ 100000 ∧ ItX.enc x' = some (M, e2) ∧
   (e2 = 0 ∧ (strOfNums M).toList = (strOfNums (kd :: t)).toList ∧ e = 0 ∧ y = x' ∨ e2 = 0 ∧ (strOfNums M).toList ≠ (strOfNums (kd :: t)).toList ∧ e = 40 ∧ y = Itm.It.z ∨ e2 = 40 ∧ e = 40 ∧ y = Itm.It.z) := by
 unfold Itm.dec at hd
 rw [if_neg (by rw [List.length_cons]; omega)] at hd
 have z0 : (0 : Int) ≤ 0 ∧ (0 : Int) < 18446744073709551616 := by decide
 have iz : ItX.Inv (0 + 1) { Itm.It.z with kd := kd } := ⟨z0, z0, z0, z0, z0, z0, by show (0 : Nat) ≤ _; omega, by show (0 : Nat) ≤ _; omega, Nat.zero_le _, fun a ha => by cases ha⟩
 have r := RfF.sim kd t hb hl t.length ((kd :: t).length + 1) (t.length + 25) 0 [] _ (by omega) (by rw [List.length_cons]; omega) (Nat.le_refl _) (Nat.zero_le _) (Nat.le_refl _) iz
 rw [show ((0 : Nat) : Int) + 1 = 1 from rfl] at r
 rw [show rd (kd :: t) 0 = kd from rfl] at hd
 unfold telemeterref03_fields.f
 rcases r with ⟨r1, r2⟩ | ⟨x', fs, r1, r2, r3, r4, r5⟩
 ·rw [r1, Option.bind_some] at hd
  unfold Itm.fin at hd
  injection hd with hd
  injection hd with h1 h2
  exact .inl ⟨r2, h2.symm, h1.symm⟩
 ·rw [r1, Option.bind_some] at hd
  obtain ⟨M, e2, he, h⟩ := ItX.enc_total x' r5
  refine .inr ⟨x', fs, M, e2, by rw [List.nil_append] at r2; exact r2, r3, r4, r5.h9, he, ?_⟩
  unfold Itm.fin at hd
  unfold ItX.enc at he
  dsimp only at hd
  rw [he, Option.bind_some] at hd
  dsimp only at hd
  rcases h with rfl | rfl
  ·rw [if_pos rfl] at hd
   unfold bytes_Equal.f at hd
   rw [Option.bind_some] at hd
   by_cases hq : (strOfNums M).toList = (strOfNums (kd :: t)).toList
   ·rw [if_pos (beq_iff_eq.mpr hq)] at hd
    injection hd with hd
    injection hd with h1 h2
    exact .inl ⟨rfl, hq, h2.symm, h1.symm⟩
   ·rw [if_neg (fun h => hq (beq_iff_eq.mp h))] at hd
    injection hd with hd
    injection hd with h1 h2
    exact .inr (.inl ⟨rfl, hq, h2.symm, h1.symm⟩)
  ·rw [if_neg (by decide)] at hd
   injection hd with hd
   injection hd with h1 h2
   exact .inr (.inr ⟨rfl, h2.symm, h1.symm⟩)
theorem RfF.fields_some (kd : Int) (t : List Int) {e : Int} {y : Itm.It} (h : (telemeterref03_fields.f (t.length + 25) t = some ([], false) ∧ e = 40 ∧ y = Itm.It.z) ∨
  ∃ (x' : Itm.It) (fs : List RfF.Fd) (M : List Int) (e2 : Int), telemeterref03_fields.f (t.length + 25) t = some (fs, true) ∧ RfF.fold fs { Itm.It.z with kd := kd } = some x' ∧ fs.length ≤ t.length ∧ x'.ats.length ≤ 100000 ∧ ItX.enc x' = some (M, e2) ∧
   (e2 = 0 ∧ (strOfNums M).toList = (strOfNums (kd :: t)).toList ∧ e = 0 ∧ y = x' ∨ e2 = 0 ∧ (strOfNums M).toList ≠ (strOfNums (kd :: t)).toList ∧ e = 40 ∧ y = Itm.It.z ∨ e2 = 40 ∧ e = 40 ∧ y = Itm.It.z)) : ∃ fs ok, telemeterref03_fields.f (t.length + 25) t = some (fs, ok) := by
 rcases h with h | ⟨_, fs, _, _, h, _⟩
 ·exact ⟨_, _, h.1⟩
 ·exact ⟨_, _, h⟩
end Go.Proofs.Ytfapckmobeppnaa.Px
