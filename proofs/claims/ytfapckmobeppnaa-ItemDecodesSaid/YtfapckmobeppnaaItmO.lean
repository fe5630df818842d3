/- item.Decode in general. -/
import Derived.Test.YtfapckmobeppnaaItmJ
import Derived.Test.YtfapckmobeppnaaPx1
namespace Go.Proofs.Ytfapckmobeppnaa.Px
open Go.RowKit Go.Proofs.YtfapckmobeppnaaW.PrintWords Go.Proofs.YtfapckmobeppnaaW.PrintLast Go.Proofs.YtfapckmobeppnaaW.PrintMore
set_option linter.unusedVariables false
set_option linter.unusedSimpArgs false

/-- An item. -/
structure Itm.It where
 kd : Int
 hi : Int
 lo : Int
 id : Int
 par : Int
 nm : ByteArray
 st : Int
 en : Int
 bad : Bool
 ats : List S36
 rv : Int
 k : ByteArray
 wt : Int
 t : Int
 b : ByteArray
def Itm.It.z : Itm.It := ⟨0, 0, 0, 0, 0, ⟨#[]⟩, 0, 0, false, [], 0, ⟨#[]⟩, 0, 0, ⟨#[]⟩⟩
def Itm.rcells (x : Itm.It) (v : Value) (A : Option Addr) (n c : Nat) (q : Int) : Array Value := #[.int .u8 x.kd, .int .u64 x.hi, .int .u64 x.lo, .int .u64 x.id, .int .u64 x.par, .string x.nm, .int .i64 x.st, .int .i64 x.en, .bool x.bad, v, .int .u64 x.rv, .string x.k, .int .u64 x.wt, .int .i64 x.t, .string x.b, .slice A n c, .int .i64 q]
/-- A field put into an item. -/
def Itm.putF (x : Itm.It) (no n : Int) (s : ByteArray) : Option Itm.It :=
 if s.size ≤ 100000 then
  (if x.kd = 1 then
   (if no = 1 then some { x with hi := n } else if no = 2 then some { x with lo := n } else if no = 3 then some { x with id := n } else if no = 4 then some { x with par := n } else if no = 5 then some { x with nm := s }
   else if no = 6 then some { x with st := wrap64 n } else if no = 7 then some { x with en := wrap64 n } else if no = 8 then some { x with bad := n == 1 } else if no = 9 then some { x with rv := n }
   else if no = 10 then (num_GetText.f (bytesOf s) 0 60).bind fun r => if r.2.2 = 0 then (if (0 ≤ r.2.1 ∧ r.2.1 ≤ s.size) ∧ x.ats.length ≤ 100000 then some { x with ats := x.ats ++ [⟨r.1, s.extract r.2.1.toNat s.size⟩] } else none) else some x
   else some x)
  else (if no = 1 then some { x with k := s } else if no = 2 then some { x with wt := n } else if no = 3 then some { x with t := wrap64 n } else if no = 4 then some { x with b := s } else some x))
 else none
/-- A field that is read. -/
def Itm.fieldF (l : List Int) (q : Int) : Option (Option (Int × Int × ByteArray × Bool × Int)) :=
 (num_Get.f l q).bind fun g => if g.2.2 = 0 then
  (if 0 ≤ g.1 ∧ g.1 < 18446744073709551616 then
   (if Go.bits .and .u64 g.1 1 = 1 then (num_GetText.f l g.2.1 4096).bind fun r => if r.2.2 = 0 then some (some (g.1 / 2, 0, r.1, true, r.2.1)) else some none
   else if Go.bits .and .u64 g.1 1 = 0 then (num_Get.f l g.2.1).bind fun r => if r.2.2 = 0 then some (some (g.1 / 2, r.1, ⟨#[]⟩, false, r.2.1)) else some none
   else none)
  else none)
  else some none
def Itm.parse : Nat → List Int → Int → Itm.It → Option (Option Itm.It)
 | 0, _, _, _ => none
 | k + 1, l, q, x => if q < (l.length : Int) then (Itm.fieldF l q).bind fun o => match o with
   | none => some none
   | some f => (Itm.putF x f.1 f.2.1 f.2.2.1).bind fun x' => Itm.parse k l f.2.2.2.2 x'
  else some (some x)
def Itm.fin (l : List Int) (o : Option Itm.It) : Option (Itm.It × Int) := match o with
 | none => some (Itm.It.z, 40)
 | some x => (item_Encode.f x.kd x.hi x.lo x.id x.par x.nm x.st x.en x.bad x.ats x.rv x.k x.wt x.t x.b).bind fun re => if re.2 = 0 then (bytes_Equal.f re.1 l).bind fun b => (if b = true then some (x, 0) else some (Itm.It.z, 40)) else some (Itm.It.z, 40)
/-- What the walk keeps: the reader, the result's block, the attributes' row. -/
structure Itm.Rd (w0 w : World) (x : Itm.It) (A9 : Option Addr) (c9 : Nat) (A : Option Addr) (n c : Nat) (q : Int) : Prop where
 hR : w.heap[w0.heap.size + 1]? = some (.cells (Itm.rcells x (.slice A9 x.ats.length c9) A n c q) 79 (0, 0))
 hI : w.heap[w0.heap.size]? = some (.cells #[.int .u8 0, .int .u64 0, .int .u64 0, .int .u64 0, .int .u64 0, .string ⟨#[]⟩, .int .i64 0, .int .i64 0, .bool false, .slice none 0 0, .int .u64 0, .string ⟨#[]⟩, .int .u64 0, .int .i64 0, .string ⟨#[]⟩] 38 (0, 0))
 hB : Below w0.heap.size w0 w
 hs : w0.heap.size + 2 ≤ w.heap.size
 hA : Kd.R k36 36 w w0.heap.size (fun k => w0.heap.size + 2 ≤ k) (.slice A9 x.ats.length c9) x.ats
theorem Itm.Rd.below {w0 w w' : World} {x : Itm.It} {A9 : Option Addr} {c9 : Nat} {A : Option Addr} {n c : Nat} {q : Int} (h : Itm.Rd w0 w x A9 c9 A n c q) (hb : Below w.heap.size w w') : Itm.Rd w0 w' x A9 c9 A n c q :=
 ⟨blk_below h.hR hb, blk_below h.hI hb, below_step h.hB hb, Nat.le_trans h.hs hb.size, Kd.R_below h.hA hb⟩
/-- One cell of the reader is another one. -/
theorem Itm.Rd.step {w0 w w' : World} {x x' : Itm.It} {A9 : Option Addr} {c9 : Nat} {A : Option Addr} {n c : Nat} {q q' : Int} (h : Itm.Rd w0 w x A9 c9 A n c q) (hR : w'.heap[w0.heap.size + 1]? = some (.cells (Itm.rcells x' (.slice A9 x'.ats.length c9) A n c q') 79 (0, 0))) (hK : Kept w w' (fun k => k = w0.heap.size + 1)) (hB : Below w0.heap.size w0 w') (ha : x'.ats = x.ats) : Itm.Rd w0 w' x' A9 c9 A n c q' := by
 have hs := h.hs
 refine ⟨hR, blk_kept h.hI hK (by omega), hB, Nat.le_trans hs hK.1, ?_⟩
 rw [ha]
 exact Kd.R_step h.hA (fun k hk hlt => hK.2 k hlt (by omega))
set_option maxHeartbeats 4000000 in
theorem Itm.next_some {w0 w : World} {x : Itm.It} {A9 : Option Addr} {c9 : Nat} {A : Option Addr} {c : Nat} {q : Int} {l : List Int} (h : Itm.Rd w0 w x A9 c9 A l.length c q) (hr : Kd.C (Kd.int .u8) w0 A l.length l) (hc : l.length ≤ c) (no n : Int) (s : ByteArray) (tx : Bool) (q2 : Int) (hf : Itm.fieldF l q = some (some (no, n, s, tx, q2))) :
  Calls Try.prog 40 #[.pointer (some ⟨w0.heap.size + 1, 0, none⟩)] w fun e w' => e = .returned (.tuple #[.agg #[.int .u64 no, .int .u64 n, .string s, .bool tx], .bool true]) ∧ Itm.Rd w0 w' x A9 c9 A l.length c q2 := by
 unfold Itm.fieldF at hf
 obtain ⟨⟨tag, p, e⟩, hg, hf⟩ := Option.bind_eq_some_iff.mp hf
 dsimp only at hf
 by_cases he : e = 0
 ·subst he
  rw [if_pos rfl] at hf
  by_cases ht : 0 ≤ tag ∧ tag < 18446744073709551616
  ·rw [if_pos ht] at hf
   by_cases h1 : Go.bits .and .u64 tag 1 = 1
   ·rw [if_pos h1] at hf
    obtain ⟨⟨s', q', e'⟩, hg2, hf⟩ := Option.bind_eq_some_iff.mp hf
    dsimp only at hf
    by_cases he2 : e' = 0
    ·subst he2
     rw [if_pos rfl] at hf
     injection hf with hf; injection hf with hf
     simp only [Prod.mk.injEq] at hf
     obtain ⟨rfl, rfl, rfl, rfl, rfl⟩ := hf
     refine (Itm.next_textE w0 w (w0.heap.size + 1) _ A c l q tag p s' q' 0 h.hB (by omega) h.hR rfl rfl (Kd.C_below hr h.hB) hc hg ht h1 hg2).mono ?_
     rintro e w' ⟨rfl, hR, hK, hB⟩
     exact ⟨rfl, h.step hR hK hB rfl⟩
    ·rw [if_neg he2] at hf; cases hf
   ·rw [if_neg h1] at hf
    by_cases h2 : Go.bits .and .u64 tag 1 = 0
    ·rw [if_pos h2] at hf
     obtain ⟨⟨s', q', e'⟩, hg2, hf⟩ := Option.bind_eq_some_iff.mp hf
     dsimp only at hf
     by_cases he2 : e' = 0
     ·subst he2
      rw [if_pos rfl] at hf
      injection hf with hf; injection hf with hf
      simp only [Prod.mk.injEq] at hf
      obtain ⟨rfl, rfl, rfl, rfl, rfl⟩ := hf
      refine (Itm.next_numE w0 w (w0.heap.size + 1) _ A c l q tag p s' q' 0 h.hB (by omega) h.hR rfl rfl (Kd.C_below hr h.hB) hc hg ht h2 hg2).mono ?_
      rintro e w' ⟨rfl, hR, hK, hB⟩
      exact ⟨rfl, h.step hR hK hB rfl⟩
     ·rw [if_neg he2] at hf; cases hf
    ·rw [if_neg h2] at hf; cases hf
  ·rw [if_neg ht] at hf; cases hf
 ·rw [if_neg he] at hf; cases hf
theorem Itm.next_fail {w0 w : World} {x : Itm.It} {A9 : Option Addr} {c9 : Nat} {A : Option Addr} {c : Nat} {q : Int} {l : List Int} (h : Itm.Rd w0 w x A9 c9 A l.length c q) (hr : Kd.C (Kd.int .u8) w0 A l.length l) (hc : l.length ≤ c) (hf : Itm.fieldF l q = some none) :
  Calls Try.prog 40 #[.pointer (some ⟨w0.heap.size + 1, 0, none⟩)] w fun e w' => (∃ no n s tx, e = .returned (.tuple #[.agg #[.int .u64 no, .int .u64 n, .string s, .bool tx], .bool false])) ∧ w'.heap[w0.heap.size]? = some (.cells #[.int .u8 0, .int .u64 0, .int .u64 0, .int .u64 0, .int .u64 0, .string ⟨#[]⟩, .int .i64 0, .int .i64 0, .bool false, .slice none 0 0, .int .u64 0, .string ⟨#[]⟩, .int .u64 0, .int .i64 0, .string ⟨#[]⟩] 38 (0, 0)) ∧ Below w0.heap.size w0 w' := by
 have hs := h.hs
 unfold Itm.fieldF at hf
 obtain ⟨⟨tag, p, e⟩, hg, hf⟩ := Option.bind_eq_some_iff.mp hf
 dsimp only at hf
 by_cases he : e = 0
 ·subst he
  rw [if_pos rfl] at hf
  by_cases ht : 0 ≤ tag ∧ tag < 18446744073709551616
  ·rw [if_pos ht] at hf
   by_cases h1 : Go.bits .and .u64 tag 1 = 1
   ·rw [if_pos h1] at hf
    obtain ⟨⟨s', q', e'⟩, hg2, hf⟩ := Option.bind_eq_some_iff.mp hf
    dsimp only at hf
    by_cases he2 : e' = 0
    ·rw [if_pos he2] at hf; cases hf
    ·refine (Itm.next_textE w0 w (w0.heap.size + 1) _ A c l q tag p s' q' e' h.hB (by omega) h.hR rfl rfl (Kd.C_below hr h.hB) hc hg ht h1 hg2).mono ?_
     rintro e w' ⟨rfl, hR, hK, hB⟩
     rw [beq_eq_false_iff_ne.mpr he2]
     exact ⟨⟨_, _, _, _, rfl⟩, blk_kept h.hI hK (by omega), hB⟩
   ·rw [if_neg h1] at hf
    by_cases h2 : Go.bits .and .u64 tag 1 = 0
    ·rw [if_pos h2] at hf
     obtain ⟨⟨s', q', e'⟩, hg2, hf⟩ := Option.bind_eq_some_iff.mp hf
     dsimp only at hf
     by_cases he2 : e' = 0
     ·rw [if_pos he2] at hf; cases hf
     ·refine (Itm.next_numE w0 w (w0.heap.size + 1) _ A c l q tag p s' q' e' h.hB (by omega) h.hR rfl rfl (Kd.C_below hr h.hB) hc hg ht h2 hg2).mono ?_
      rintro e w' ⟨rfl, hR, hK, hB⟩
      rw [beq_eq_false_iff_ne.mpr he2]
      exact ⟨⟨_, _, _, _, rfl⟩, blk_kept h.hI hK (by omega), hB⟩
    ·rw [if_neg h2] at hf; cases hf
  ·rw [if_neg ht] at hf; cases hf
 ·refine (Itm.next_none w0 w (w0.heap.size + 1) _ A c l q tag p e h.hB (by omega) h.hR rfl rfl (Kd.C_below hr h.hB) hc hg he).mono ?_
  rintro e w' ⟨⟨a, b, s, t, rfl⟩, hK, hB⟩
  exact ⟨⟨_, _, _, _, rfl⟩, blk_kept h.hI hK (by omega), hB⟩
theorem Itm.take_span {w0 w : World} {x x' : Itm.It} {A9 : Option Addr} {c9 : Nat} {A : Option Addr} {m c : Nat} {q : Int} (h : Itm.Rd w0 w x A9 c9 A m c q) (hkd : x.kd = 1) (no n : Int) (s : ByteArray) (tx : Bool) (hp : Itm.putF x no n s = some x') :
  Calls Try.prog 39 #[.pointer (some ⟨w0.heap.size + 1, 0, none⟩), .agg #[.int .u64 no, .int .u64 n, .string s, .bool tx]] w fun e w' => (∃ v, e = .returned v) ∧ ∃ A9' c9', Itm.Rd w0 w' x' A9' c9' A m c q := by
 unfold Itm.putF at hp
 by_cases hsz : s.size ≤ 100000
 ·rw [if_pos hsz, if_pos hkd] at hp
  by_cases h1 : no = 1
  ·subst h1
   rw [if_pos rfl] at hp
   injection hp with hp; subst hp
   refine (Itm.rspan_1 w0 w (w0.heap.size + 1) _ n s tx _ h.hB (by omega) h.hR rfl).mono ?_
   rintro e w' ⟨hv, hR, hK, hB⟩
   exact ⟨hv, _, _, h.step hR hK hB rfl⟩
  rw [if_neg h1] at hp
  by_cases h2 : no = 2
  ·subst h2
   rw [if_pos rfl] at hp
   injection hp with hp; subst hp
   refine (Itm.rspan_2 w0 w (w0.heap.size + 1) _ n s tx _ h.hB (by omega) h.hR rfl).mono ?_
   rintro e w' ⟨hv, hR, hK, hB⟩
   exact ⟨hv, _, _, h.step hR hK hB rfl⟩
  rw [if_neg h2] at hp
  by_cases h3 : no = 3
  ·subst h3
   rw [if_pos rfl] at hp
   injection hp with hp; subst hp
   refine (Itm.rspan_3 w0 w (w0.heap.size + 1) _ n s tx _ h.hB (by omega) h.hR rfl).mono ?_
   rintro e w' ⟨hv, hR, hK, hB⟩
   exact ⟨hv, _, _, h.step hR hK hB rfl⟩
  rw [if_neg h3] at hp
  by_cases h4 : no = 4
  ·subst h4
   rw [if_pos rfl] at hp
   injection hp with hp; subst hp
   refine (Itm.rspan_4 w0 w (w0.heap.size + 1) _ n s tx _ h.hB (by omega) h.hR rfl).mono ?_
   rintro e w' ⟨hv, hR, hK, hB⟩
   exact ⟨hv, _, _, h.step hR hK hB rfl⟩
  rw [if_neg h4] at hp
  by_cases h5 : no = 5
  ·subst h5
   rw [if_pos rfl] at hp
   injection hp with hp; subst hp
   refine (Itm.rspan_5 w0 w (w0.heap.size + 1) _ n s tx _ h.hB (by omega) h.hR rfl).mono ?_
   rintro e w' ⟨hv, hR, hK, hB⟩
   exact ⟨hv, _, _, h.step hR hK hB rfl⟩
  rw [if_neg h5] at hp
  by_cases h6 : no = 6
  ·subst h6
   rw [if_pos rfl] at hp
   injection hp with hp; subst hp
   refine (Itm.rspan_6 w0 w (w0.heap.size + 1) _ n s tx _ h.hB (by omega) h.hR rfl).mono ?_
   rintro e w' ⟨hv, hR, hK, hB⟩
   exact ⟨hv, _, _, h.step hR hK hB rfl⟩
  rw [if_neg h6] at hp
  by_cases h7 : no = 7
  ·subst h7
   rw [if_pos rfl] at hp
   injection hp with hp; subst hp
   refine (Itm.rspan_7 w0 w (w0.heap.size + 1) _ n s tx _ h.hB (by omega) h.hR rfl).mono ?_
   rintro e w' ⟨hv, hR, hK, hB⟩
   exact ⟨hv, _, _, h.step hR hK hB rfl⟩
  rw [if_neg h7] at hp
  by_cases h8 : no = 8
  ·subst h8
   rw [if_pos rfl] at hp
   injection hp with hp; subst hp
   refine (Itm.rspan_8 w0 w (w0.heap.size + 1) _ n s tx _ h.hB (by omega) h.hR rfl).mono ?_
   rintro e w' ⟨hv, hR, hK, hB⟩
   exact ⟨hv, _, _, h.step hR hK hB rfl⟩
  rw [if_neg h8] at hp
  by_cases h9 : no = 9
  ·subst h9
   rw [if_pos rfl] at hp
   injection hp with hp; subst hp
   refine (Itm.rspan_9 w0 w (w0.heap.size + 1) _ n s tx _ h.hB (by omega) h.hR rfl).mono ?_
   rintro e w' ⟨hv, hR, hK, hB⟩
   exact ⟨hv, _, _, h.step hR hK hB rfl⟩
  rw [if_neg h9] at hp
  by_cases h10 : no = 10
  ·subst h10
   rw [if_pos rfl] at hp
   obtain ⟨⟨k, up, ee⟩, hg, hp⟩ := Option.bind_eq_some_iff.mp hp
   dsimp only at hp
   by_cases he : ee = 0
   ·subst he
    rw [if_pos rfl] at hp
    by_cases hu : (0 ≤ up ∧ up ≤ s.size) ∧ x.ats.length ≤ 100000
    ·rw [if_pos hu] at hp
     injection hp with hp; subst hp
     have hs := h.hs
     refine (Itm.rspan_attr w0 w (w0.heap.size + 1) _ n s tx (fun k => w0.heap.size + 2 ≤ k) A9 c9 x.ats k up h.hB (by omega) h.hR rfl h.hA (by omega) (by omega) hg hu.1 hu.2).mono ?_
     rintro e w' ⟨hv, ⟨A', c', hR, hA⟩, hK, hB⟩
     have hl : (x.ats ++ [(⟨k, s.extract up.toNat s.size⟩ : S36)]).length = x.ats.length + 1 := List.length_append
     refine ⟨hv, A', c', ?_, blk_kept h.hI hK (by omega), hB, Nat.le_trans hs hK.1, ?_⟩
     ·show w'.heap[w0.heap.size + 1]? = some (.cells (Itm.rcells _ (.slice A' (x.ats ++ [(⟨k, s.extract up.toNat s.size⟩ : S36)]).length c') A m c q) _ (0, 0))
      rw [hl]; exact hR
     ·show Kd.R _ _ w' _ _ (.slice A' (x.ats ++ [(⟨k, s.extract up.toNat s.size⟩ : S36)]).length c') _
      rw [hl]; exact Kd.R_mono hA (fun k hk => by rcases hk with hk | hk; exact hk; omega)
    ·rw [if_neg hu] at hp; cases hp
   ·rw [if_neg he] at hp
    injection hp with hp; subst hp
    refine (Itm.rspan_attr_no w0 w (w0.heap.size + 1) _ n s tx k up ee h.hB (by omega) h.hR (by omega) hg he).mono ?_
    rintro e w' ⟨hv, hR, hK, hB⟩
    exact ⟨hv, _, _, h.step hR hK hB rfl⟩
  rw [if_neg h10] at hp
  injection hp with hp; subst hp
  refine (Itm.rspan_none w0 w (w0.heap.size + 1) _ no n s tx h.hB (by omega) h.hR ⟨h1, h2, h3, h4, h5, h6, h7, h8, h9, h10⟩).mono ?_
  rintro e w' ⟨hv, hR, hK, hB⟩
  exact ⟨hv, _, _, h.step hR hK hB rfl⟩
 ·rw [if_neg hsz] at hp; cases hp
theorem Itm.take_log {w0 w : World} {x x' : Itm.It} {A9 : Option Addr} {c9 : Nat} {A : Option Addr} {m c : Nat} {q : Int} (h : Itm.Rd w0 w x A9 c9 A m c q) (hkd : x.kd ≠ 1) (no n : Int) (s : ByteArray) (tx : Bool) (hp : Itm.putF x no n s = some x') :
  Calls Try.prog 38 #[.pointer (some ⟨w0.heap.size + 1, 0, none⟩), .agg #[.int .u64 no, .int .u64 n, .string s, .bool tx]] w fun e w' => (∃ v, e = .returned v) ∧ ∃ A9' c9', Itm.Rd w0 w' x' A9' c9' A m c q := by
 unfold Itm.putF at hp
 by_cases hsz : s.size ≤ 100000
 ·rw [if_pos hsz, if_neg hkd] at hp
  by_cases h1 : no = 1
  ·subst h1
   rw [if_pos rfl] at hp
   injection hp with hp; subst hp
   refine (Itm.rlog_key w0 w (w0.heap.size + 1) _ n s tx _ h.hB (by omega) h.hR rfl).mono ?_
   rintro e w' ⟨hv, hR, hK, hB⟩
   exact ⟨hv, _, _, h.step hR hK hB rfl⟩
  rw [if_neg h1] at hp
  by_cases h2 : no = 2
  ·subst h2
   rw [if_pos rfl] at hp
   injection hp with hp; subst hp
   refine (Itm.rlog_weight w0 w (w0.heap.size + 1) _ n s tx _ h.hB (by omega) h.hR rfl).mono ?_
   rintro e w' ⟨hv, hR, hK, hB⟩
   exact ⟨hv, _, _, h.step hR hK hB rfl⟩
  rw [if_neg h2] at hp
  by_cases h3 : no = 3
  ·subst h3
   rw [if_pos rfl] at hp
   injection hp with hp; subst hp
   refine (Itm.rlog_atE w0 w (w0.heap.size + 1) _ n s tx _ h.hB (by omega) h.hR rfl).mono ?_
   rintro e w' ⟨hv, hR, hK, hB⟩
   exact ⟨hv, _, _, h.step hR hK hB rfl⟩
  rw [if_neg h3] at hp
  by_cases h4 : no = 4
  ·subst h4
   rw [if_pos rfl] at hp
   injection hp with hp; subst hp
   refine (Itm.rlog_body w0 w (w0.heap.size + 1) _ n s tx _ h.hB (by omega) h.hR rfl).mono ?_
   rintro e w' ⟨hv, hR, hK, hB⟩
   exact ⟨hv, _, _, h.step hR hK hB rfl⟩
  rw [if_neg h4] at hp
  injection hp with hp; subst hp
  refine (Itm.rlog_none w0 w (w0.heap.size + 1) _ no n s tx h.hB (by omega) h.hR ⟨h1, h2, h3, h4⟩).mono ?_
  rintro e w' ⟨hv, hR, hK, hB⟩
  exact ⟨hv, _, _, h.step hR hK hB rfl⟩
 ·rw [if_neg hsz] at hp; cases hp
theorem Itm.putF_kd {x x' : Itm.It} {no n : Int} {s : ByteArray} (hp : Itm.putF x no n s = some x') : x'.kd = x.kd := by
 unfold Itm.putF at hp
 by_cases hsz : s.size ≤ 100000
 ·rw [if_pos hsz] at hp
  by_cases hk : x.kd = 1
  ·rw [if_pos hk] at hp
   by_cases h1 : no = 1
   ·rw [if_pos h1] at hp; injection hp with hp; subst hp; rfl
   rw [if_neg h1] at hp
   by_cases h2 : no = 2
   ·rw [if_pos h2] at hp; injection hp with hp; subst hp; rfl
   rw [if_neg h2] at hp
   by_cases h3 : no = 3
   ·rw [if_pos h3] at hp; injection hp with hp; subst hp; rfl
   rw [if_neg h3] at hp
   by_cases h4 : no = 4
   ·rw [if_pos h4] at hp; injection hp with hp; subst hp; rfl
   rw [if_neg h4] at hp
   by_cases h5 : no = 5
   ·rw [if_pos h5] at hp; injection hp with hp; subst hp; rfl
   rw [if_neg h5] at hp
   by_cases h6 : no = 6
   ·rw [if_pos h6] at hp; injection hp with hp; subst hp; rfl
   rw [if_neg h6] at hp
   by_cases h7 : no = 7
   ·rw [if_pos h7] at hp; injection hp with hp; subst hp; rfl
   rw [if_neg h7] at hp
   by_cases h8 : no = 8
   ·rw [if_pos h8] at hp; injection hp with hp; subst hp; rfl
   rw [if_neg h8] at hp
   by_cases h9 : no = 9
   ·rw [if_pos h9] at hp; injection hp with hp; subst hp; rfl
   rw [if_neg h9] at hp
   by_cases h10 : no = 10
   ·rw [if_pos h10] at hp
    obtain ⟨r, _, hp⟩ := Option.bind_eq_some_iff.mp hp
    by_cases he : r.2.2 = 0
    ·rw [if_pos he] at hp
     by_cases hu : (0 ≤ r.2.1 ∧ r.2.1 ≤ s.size) ∧ x.ats.length ≤ 100000
     ·rw [if_pos hu] at hp; injection hp with hp; subst hp; rfl
     ·rw [if_neg hu] at hp; cases hp
    ·rw [if_neg he] at hp; injection hp with hp; subst hp; rfl
   rw [if_neg h10] at hp; injection hp with hp; subst hp; rfl
  ·rw [if_neg hk] at hp
   by_cases h1 : no = 1
   ·rw [if_pos h1] at hp; injection hp with hp; subst hp; rfl
   rw [if_neg h1] at hp
   by_cases h2 : no = 2
   ·rw [if_pos h2] at hp; injection hp with hp; subst hp; rfl
   rw [if_neg h2] at hp
   by_cases h3 : no = 3
   ·rw [if_pos h3] at hp; injection hp with hp; subst hp; rfl
   rw [if_neg h3] at hp
   by_cases h4 : no = 4
   ·rw [if_pos h4] at hp; injection hp with hp; subst hp; rfl
   rw [if_neg h4] at hp
   injection hp with hp; subst hp; rfl
 ·rw [if_neg hsz] at hp; cases hp
theorem Itm.R_one {w : World} {base g j : Nat} {ok : Nat → Prop} {v u : Value} {l : List S36} (h : Kd.R k36 36 w base ok v l) (hg : ∀ k, ok k → k ≠ g) : Kd.R k36 36 (w.setCell ⟨g, j, none⟩ u) base ok v l :=
 Kd.R_step h (fun k hk _ => heap_setCell_other _ _ _ _ (hg k hk))
def Itm.DPost (y : Itm.It) (er : Int) (w : World) (e : Ending) (w' : World) : Prop := ∃ v : Value, e = .returned (.tuple #[.agg #[.int .u8 y.kd, .int .u64 y.hi, .int .u64 y.lo, .int .u64 y.id, .int .u64 y.par, .string y.nm, .int .i64 y.st, .int .i64 y.en, .bool y.bad, v, .int .u64 y.rv, .string y.k, .int .u64 y.wt, .int .i64 y.t, .string y.b], .int .u16 er]) ∧ Kd.R k36 36 w' w.heap.size (fun _ => True) v y.ats ∧ Below w.heap.size w w'
end Go.Proofs.Ytfapckmobeppnaa.Px
