/- The law ItemAttrs holds of what the program computes: attributes stand by rising keys, each once, eight at most. No condition beyond the row's own. -/
import Derived.Test.YtfapckmobeppnaaPx27
import Derived.Test.YtfapckmobeppnaaItmZ
import Derived.Test.YtfapckmobeppnaaSpan
namespace Go.Proofs.Ytfapckmobeppnaa.Px
open Go.RowKit Go.Proofs.YtfapckmobeppnaaW.PrintWords Go.Proofs.YtfapckmobeppnaaW.PrintLast Go.Proofs.YtfapckmobeppnaaW.PrintMore
set_option linter.unusedVariables false
set_option linter.unusedSimpArgs false

theorem Itm.or_ne (a b : Nat) (ha : a < 18446744073709551616) (hb : b < 18446744073709551616) (h0 : b ≠ 0) : Go.bits .or .u64 (a : Int) (b : Int) ≠ 0 := by
  have ha' : a % 2 ^ 64 = a := Nat.mod_eq_of_lt ha
  have hb' : b % 2 ^ 64 = b := Nat.mod_eq_of_lt hb
  simp only [Go.bits, IntKind.bits]
  rw [BitVec.ofInt_natCast, BitVec.ofInt_natCast]
  show IntKind.u64.wrap ((BitVec.ofNat 64 a ||| BitVec.ofNat 64 b).toNat : Int) ≠ 0
  rw [BitVec.toNat_or, BitVec.toNat_ofNat, BitVec.toNat_ofNat, ha', hb', wrap_u64_id (by omega) (by have := Nat.or_lt_two_pow (n := 64) ha hb; omega)]
  intro h
  have h1 : a ||| b = 0 := by omega
  exact h0 (Nat.or_eq_zero_iff.mp h1).2
def Itm.attrsL (m : Nat) : List S36 := (List.range m).map (fun i : Nat => (⟨strOfNums [97 + (i : Int)], ⟨#[]⟩⟩ : S36))
theorem Itm.attrsL_succ (m : Nat) : Itm.attrsL (m + 1) = Itm.attrsL m ++ [⟨strOfNums [97 + (m : Int)], ⟨#[]⟩⟩] := by
  unfold Itm.attrsL; rw [List.range_succ, List.map_append]; rfl
theorem Itm.attrsL_length (m : Nat) : (Itm.attrsL m).length = m := by unfold Itm.attrsL; rw [List.length_map, List.length_range]
theorem Itm.nm_ok : ∀ c : Fin 256, Itm.nameB (Spn.nm ((c.val : Nat) : Int)) = true ∧ (Spn.nm ((c.val : Nat) : Int)).size ≤ 60 := by decide +kernel
theorem Itm.attrs_ok : ∀ m : Fin 12, Itm.ordB ⟨#[]⟩ (Itm.attrsL m.val) = true ∧ (Itm.attrsL m.val).any Itm.oddB = false ∧ ((Itm.attrsL m.val).all fun a => decide (a.f0.size ≤ 140737488355328)) = true := by decide +kernel
def Itm.bend (m i : Nat) : List S36 := (Itm.attrsL m).set i ⟨((Itm.attrsL m).getD (i - 1) z36).f0, ((Itm.attrsL m).getD i z36).f1⟩
theorem Itm.bend_ok : ∀ m : Fin 12, ∀ i : Fin 12, 1 ≤ i.val → i.val < m.val → Itm.ordB ⟨#[]⟩ (Itm.bend m.val i.val) = false ∧ ((Itm.bend m.val i.val).all fun a => decide (a.f0.size ≤ 140737488355328)) = true := by decide +kernel

theorem Itm.at_byte (l : List Int) (h : ∀ x ∈ l, 0 ≤ x ∧ x ≤ 255) (j : Nat) : 0 ≤ Spn.at l j ∧ Spn.at l j ≤ 255 := by
  unfold Spn.at Spn.fin
  by_cases hj : j < (Spn.row l (min l.length 12)).length
  · exact Spn.getD_byte _ (Spn.row_bytes l _ h) j hj
  · rw [List.getD_eq_getElem?_getD, List.getElem?_eq_none (by omega)]; exact ⟨Int.le_refl _, by decide⟩
theorem Itm.right_attrs (l : List Int) (h : ∀ x ∈ l, 0 ≤ x ∧ x ≤ 255) (ls : List S36) :
    Itm.rightSpan (IntKind.u64.wrap ((Spn.at l 0).tmod 3)) (IntKind.u64.wrap (IntKind.u64.wrap (IntKind.u64.wrap (IntKind.u64.wrap ((Spn.at l 1).tmod 4) * 18014398509481984) + IntKind.u64.wrap (Spn.at l 2)) + 1)) (IntKind.u64.wrap (IntKind.u64.wrap (Spn.at l 3) + 1)) (Spn.nm (Spn.at l 5)) (wrap64 (Spn.at l 6)) (wrap64 (wrap64 (Spn.at l 6) + wrap64 (Spn.at l 7))) ls (Spn.rv (Spn.at l))
      = (Itm.ordB ⟨#[]⟩ ls && (decide ((ls.length : Int) ≤ 8) && !(ls.any Itm.oddB))) := by
  have b0 := Itm.at_byte l h 0
  have b1 := Itm.at_byte l h 1
  have b2 := Itm.at_byte l h 2
  have b3 := Itm.at_byte l h 3
  have b5 := Itm.at_byte l h 5
  have b6 := Itm.at_byte l h 6
  have b7 := Itm.at_byte l h 7
  have b8 := Itm.at_byte l h 8
  have b9 := Itm.at_byte l h 9
  unfold Itm.rightSpan Spn.rv
  generalize Spn.at l 0 = x0 at *
  generalize Spn.at l 1 = x1 at *
  generalize Spn.at l 2 = x2 at *
  generalize Spn.at l 3 = x3 at *
  generalize Spn.at l 5 = x5 at *
  generalize Spn.at l 6 = x6 at *
  generalize Spn.at l 7 = x7 at *
  generalize Spn.at l 8 = x8 at *
  generalize Spn.at l 9 = x9 at *
  have g0 : IntKind.u64.wrap (x0.tmod 3) = ((x0 % 3).toNat : Int) := by rw [Int.tmod_eq_emod_of_nonneg (by omega), wrap_u64_id (by omega) (by omega)]; omega
  have g1 : IntKind.u64.wrap (IntKind.u64.wrap (IntKind.u64.wrap (IntKind.u64.wrap (x1.tmod 4) * 18014398509481984) + IntKind.u64.wrap x2) + 1) = (((x1 % 4) * 18014398509481984 + x2 + 1).toNat : Int) := by
    rw [Int.tmod_eq_emod_of_nonneg (by omega), wrap_u64_id (n := x1 % 4) (by omega) (by omega), wrap_u64_id (n := x1 % 4 * 18014398509481984) (by omega) (by omega), wrap_u64_id (n := x2) (by omega) (by omega), wrap_u64_id (n := x1 % 4 * 18014398509481984 + x2) (by omega) (by omega), wrap_u64_id (by omega) (by omega)]; omega
  have f1 : (Go.bits .or .u64 (IntKind.u64.wrap (x0.tmod 3)) (IntKind.u64.wrap (IntKind.u64.wrap (IntKind.u64.wrap (IntKind.u64.wrap (x1.tmod 4) * 18014398509481984) + IntKind.u64.wrap x2) + 1)) != 0) = true := by
    rw [g0, g1]
    exact bne_iff_ne.mpr (Itm.or_ne _ _ (by omega) (by omega) (by omega))
  have f2 : (IntKind.u64.wrap (IntKind.u64.wrap x3 + 1) != 0) = true := by
    rw [wrap_u64_id (n := x3) (by omega) (by omega), wrap_u64_id (by omega) (by omega)]; exact bne_iff_ne.mpr (by omega)
  have f3 : Itm.nameB (Spn.nm x5) = true := by
    have := (Itm.nm_ok ⟨x5.toNat, by omega⟩).1
    rwa [show ((x5.toNat : Nat) : Int) = x5 from by omega] at this
  have f4 : Itm.timeB (wrap64 x6) = true := by
    rw [wrap64_id (by omega) (by omega)]; unfold Itm.timeB; rw [decide_eq_true (by omega), decide_eq_true (by omega)]; rfl
  have f5 : Itm.timeB (wrap64 (wrap64 x6 + wrap64 x7)) = true := by
    rw [wrap64_id (n := x6) (by omega) (by omega), wrap64_id (n := x7) (by omega) (by omega), wrap64_id (by omega) (by omega)]; unfold Itm.timeB; rw [decide_eq_true (by omega), decide_eq_true (by omega)]; rfl
  have f6 : decide (wrap64 x6 ≤ wrap64 (wrap64 x6 + wrap64 x7)) = true := by
    rw [wrap64_id (n := x6) (by omega) (by omega), wrap64_id (n := x7) (by omega) (by omega), wrap64_id (by omega) (by omega)]; exact decide_eq_true (by omega)
  have f7 : decide ((if x8 > 200 then x9 * 281474976710656 + 1 else 0) ≤ (72057594037927936 : Int)) = true := by
    refine decide_eq_true ?_; split <;> omega
  rw [f1, f2, f3, f4, f5, f6, f7]
  simp
theorem Itm.nm_size (l : List Int) (h : ∀ x ∈ l, 0 ≤ x ∧ x ≤ 255) (j : Nat) : (Spn.nm (Spn.at l j)).size ≤ 140737488355328 := by
  have hb := Itm.at_byte l h j
  have := (Itm.nm_ok ⟨(Spn.at l j).toNat, by omega⟩).2
  rw [show (((Spn.at l j).toNat : Nat) : Int) = Spn.at l j from by omega] at this
  exact Nat.le_trans this (by decide)
theorem Itm.attrs_loop (a1 a2 h lo id par : Int) (nm : ByteArray) (st en : Int) (bad : Bool) (rv : Int) (m : Nat) (hm : wrap64 (Int.tmod a1 12) = (m : Int)) (hm2 : m ≤ 11) :
    ∀ (n i : Nat), i + n = m → telemeterlaw03_ItemAttrs.l0 (n + 1) a1 a2 (i : Int) h lo id par nm st en bad (Itm.attrsL i) rv = telemeterlaw03_ItemAttrs.l0 1 a1 a2 (m : Int) h lo id par nm st en bad (Itm.attrsL m) rv
  | 0, i, hi => by rw [show i = m from by omega]
  | n + 1, i, hi => by
    rw [telemeterlaw03_ItemAttrs.l0, if_pos (by rw [hm]; omega), if_pos (by rw [Itm.attrsL_length]; omega)]
    have e1 : wrap64 ((i : Int) + 1) = ((i + 1 : Nat) : Int) := by rw [wrap64_id (by omega) (by omega)]; rfl
    have e2 : wrap64 (97 + (i : Int)) % 256 = 97 + (i : Int) := by rw [wrap64_id (by omega) (by omega)]; omega
    rw [e1, e2, ← Itm.attrsL_succ]
    exact Itm.attrs_loop a1 a2 h lo id par nm st en bad rv m hm hm2 n (i + 1) (by omega)
end Go.Proofs.Ytfapckmobeppnaa.Px
namespace Go.Proofs.Ytfapckmobeppnaa.Pure
open Go.RowKit Go.Proofs.Ytfapckmobeppnaa.Px Go.Proofs.YtfapckmobeppnaaW.PrintWords Go.Proofs.YtfapckmobeppnaaW.PrintLast

theorem ItemAttrs : telemeterlaw03_ItemAttrs.Pure := by
  intro l0 a1 a2 hl hl2 hby ha1 ha2
  have hb : ∀ x ∈ l0, 0 ≤ x ∧ x ≤ 255 := fun x hx => u8_wf (hby x hx)
  have h1 := u8_wf ha1
  have h2 := u8_wf ha2
  obtain ⟨m, hm⟩ : ∃ m : Nat, wrap64 (Int.tmod a1 12) = (m : Int) := ⟨(a1 % 12).toNat, by rw [Int.tmod_eq_emod_of_nonneg (by omega), wrap64_id (by omega) (by omega)]; omega⟩
  have hm2 : m ≤ 11 := by rw [Int.tmod_eq_emod_of_nonneg (by omega), wrap64_id (by omega) (by omega)] at hm; omega
  refine ⟨m + 1, ?_⟩
  unfold telemeterlaw03_ItemAttrs.f telemeterlaw03_Span.f
  rw [if_pos (List.all_eq_true.mpr fun x hx => decide_eq_true (hb x hx)), Option.bind_some]
  dsimp only
  refine (Itm.attrs_loop a1 a2 _ _ _ _ _ _ _ _ _ m hm hm2 m 0 (by omega)).trans ?_
  rw [telemeterlaw03_ItemAttrs.l0, if_neg (by rw [hm]; omega)]
  have hR : ∀ ls : List S36, (ls.all fun a => decide (a.f0.size ≤ 140737488355328)) = true → item_RightSpan.f (IntKind.u64.wrap ((Spn.at l0 0).tmod 3)) (IntKind.u64.wrap (IntKind.u64.wrap (IntKind.u64.wrap (IntKind.u64.wrap ((Spn.at l0 1).tmod 4) * 18014398509481984) + IntKind.u64.wrap (Spn.at l0 2)) + 1)) (IntKind.u64.wrap (IntKind.u64.wrap (Spn.at l0 3) + 1)) (IntKind.u64.wrap ((Spn.at l0 4).tmod 3)) (Spn.nm (Spn.at l0 5)) (wrap64 (Spn.at l0 6)) (wrap64 (wrap64 (Spn.at l0 6) + wrap64 (Spn.at l0 7))) ((Spn.at l0 8).tmod 3 == 0) ls (Spn.rv (Spn.at l0)) = some (Itm.ordB ⟨#[]⟩ ls && (decide ((ls.length : Int) ≤ 8) && !(ls.any Itm.oddB))) := by
    intro ls has
    unfold item_RightSpan.f
    rw [if_pos ⟨Itm.nm_size l0 hb 5, has⟩, Itm.right_attrs l0 hb ls]
  obtain ⟨o1, o2, o3⟩ := Itm.attrs_ok ⟨m, by omega⟩
  simp only at o1 o2 o3
  rw [hR _ o3, Option.bind_some, o1, o2, Itm.attrsL_length]
  rw [if_neg (by simp)]
  by_cases hlt : (m : Int) < 2
  · rw [if_pos hlt]; rfl
  rw [if_neg hlt]
  have e1 : wrap64 ((m : Int) - 1) = (m : Int) - 1 := wrap64_id (by omega) (by omega)
  have e2 : wrap64 a2 = a2 := wrap64_id (by omega) (by omega)
  have e3 : Int.tmod a2 ((m : Int) - 1) = a2 % ((m : Int) - 1) := Int.tmod_eq_emod_of_nonneg (by omega)
  have g1 := Int.emod_nonneg a2 (show (m : Int) - 1 ≠ 0 by omega)
  have g2 := Int.emod_lt_of_pos a2 (show (0 : Int) < (m : Int) - 1 by omega)
  obtain ⟨i, hi⟩ : ∃ i : Nat, 1 + a2 % ((m : Int) - 1) = (i : Int) := ⟨(1 + a2 % ((m : Int) - 1)).toNat, by omega⟩
  have e4 : wrap64 (1 + a2 % ((m : Int) - 1)) = (i : Int) := by rw [wrap64_id (by omega) (by omega)]; exact hi
  have e5 : wrap64 ((i : Int) - 1) = ((i - 1 : Nat) : Int) := by rw [wrap64_id (by omega) (by omega)]; omega
  rw [e1, e2, e3, e4, e5]
  rw [if_neg (by omega), if_pos (by omega), if_pos (by omega), if_pos (by omega), if_pos (by omega)]
  rw [show telemeterlaw03_known.f = some true from rfl, Option.bind_some, if_pos rfl]
  obtain ⟨p1, p2⟩ := Itm.bend_ok ⟨m, by omega⟩ ⟨i, by omega⟩ (by show 1 ≤ i; omega) (by show i < m; omega)
  have hset : (Itm.attrsL m).set ((i : Int)).toNat (⟨(rd_T36 (Itm.attrsL m) ((i - 1 : Nat) : Int)).f0, (rd_T36 (Itm.attrsL m) (i : Int)).f1⟩ : S36) = Itm.bend m i := rfl
  rw [hset, hR _ p2, p1]
  rfl
end Go.Proofs.Ytfapckmobeppnaa.Pure
