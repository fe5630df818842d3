/- What Item of telemeterlaw03 tells may be. -/
import Derived.Test.YtfapckmobeppnaaItmX
import Derived.Test.YtfapckmobeppnaaPx28
namespace Go.Proofs.Ytfapckmobeppnaa.Px
open Go.RowKit Go.Proofs.YtfapckmobeppnaaW.PrintWords Go.Proofs.YtfapckmobeppnaaW.PrintLast Go.Proofs.YtfapckmobeppnaaW.PrintMore
set_option linter.unusedVariables false
set_option linter.unusedSimpArgs false

theorem ItX.enG {hi lo id par : Int} {nm : ByteArray} {l : List S36} {rv : Int} {k : ByteArray} {wt : Int} (h1 : 0 ≤ hi ∧ hi < 18446744073709551616) (h2 : 0 ≤ lo ∧ lo < 18446744073709551616) (h3 : 0 ≤ id ∧ id < 18446744073709551616) (h4 : 0 ≤ par ∧ par < 18446744073709551616) (h5 : 0 ≤ rv ∧ rv < 18446744073709551616) (h6 : 0 ≤ wt ∧ wt < 18446744073709551616) (h7 : nm.size ≤ 100000) (h8 : k.size ≤ 100000) (h9 : ∀ a ∈ l, a.f0.size ≤ 100000) : Itm.enG hi lo id par nm l rv k wt = true := by
 unfold Itm.enG
 simp only [Bool.and_eq_true, Itm.u64B_iff, Itm.bigB_iff, List.all_eq_true]
 exact ⟨h1, h2, h3, h4, h5, h6, by omega, by omega, fun a ha => Nat.le_trans (h9 a ha) (by decide)⟩
theorem ItX.nil_list : (⟨#[]⟩ : ByteArray).toList = [] := by
 have h := Itm.empty_eq ⟨#[]⟩
 rw [decide_eq_true (by rfl)] at h
 exact List.isEmpty_iff.mp h
theorem ItX.zero_empty : item_empty.f 0 0 0 0 ⟨#[]⟩ 0 0 false ([] : List S36) 0 = some true := by
 unfold item_empty.f
 rw [if_pos (by decide), if_pos ItX.nil_list, if_pos rfl, if_pos rfl, if_neg (by decide)]
 rfl
/-- Item of anything is an item that may be. -/
theorem ItX.item (l : List Int) (h : ∀ x ∈ l, 0 ≤ x ∧ x ≤ 255) : ∃ (x : Itm.It) (L : List Int), (∀ k, telemeterlaw03_Item.f (k + 1) l = some x.tup) ∧ ItX.enc x = some (L, 0) ∧ x.ats.length ≤ 2 := by
 have hS : ∀ m : List Int, (∀ x ∈ m, 0 ≤ x ∧ x ≤ 255) → ∃ (x : Itm.It) (L : List Int), (∀ k, telemeterlaw03_Item.j0 (k + 1) m false = some x.tup) ∧ ItX.enc x = some (L, 0) ∧ x.ats.length ≤ 2 := by
  intro m hm
  obtain ⟨hi, lo, id, par, nm, st, en, bad, ats, rv, eS, S⟩ := ItB.span m hm
  refine ⟨⟨1, hi, lo, id, par, nm, st, en, bad, ats, rv, ⟨#[]⟩, 0, 0, ⟨#[]⟩⟩, 1 :: Itm.spanL hi lo id par nm st en bad ats rv, fun k => ?_, ?_, S.o2⟩
  ·rw [telemeterlaw03_Item.j0, if_neg (by decide), eS, Option.bind_some]
   rfl
  ·have nz := S.nz
   unfold ItX.enc item_Encode.f
   dsimp only
   rw [if_pos (ItX.enG S.bh S.bl S.bi S.bp S.br (by omega) (by omega) (by decide) (fun a ha => by have := (S.o4 a ha).1; omega)), if_pos rfl, if_pos ⟨S.right, ItX.nil_list, rfl, rfl, ItX.nil_list⟩]
 have hL : ∀ m : List Int, (∀ x ∈ m, 0 ≤ x ∧ x ≤ 255) → 1 ≤ (m.length : Int) → ∃ (x : Itm.It) (L : List Int), (∀ k, telemeterlaw03_Item.j0 (k + 1) m true = some x.tup) ∧ ItX.enc x = some (L, 0) ∧ x.ats.length ≤ 2 := by
  intro m hm hlen
  obtain ⟨k, wt, t, b, eL, L⟩ := ItB.log (m.drop 1) (fun x hx => hm x (List.mem_of_mem_drop hx))
  refine ⟨⟨2, 0, 0, 0, 0, ⟨#[]⟩, 0, 0, false, [], 0, k, wt, t, b⟩, 2 :: Itm.logL k wt t b, fun j => ?_, ?_, Nat.zero_le _⟩
  ·rw [telemeterlaw03_Item.j0, if_pos rfl, if_pos hlen, eL, Option.bind_some]
   rfl
  ·have h2 := L.f2
   have h5 := L.f5
   unfold ItX.enc item_Encode.f
   dsimp only
   rw [if_pos (ItX.enG (by omega) (by omega) (by omega) (by omega) (by omega) (by omega) (by decide) (by omega) (fun a ha => by cases ha)), if_neg (by decide), if_pos rfl, if_pos ⟨L.right, ItX.zero_empty⟩]
 unfold telemeterlaw03_Item.f
 by_cases hp : (l.length : Int) > 0
 ·simp only [if_pos hp]
  try rw [if_pos (show 0 < (l.length : Int) by omega)]
  cases hb : (Int.tmod (rd l 0) 3) == 0 with
  | true => exact hL l h (by omega)
  | false => exact hS l h
 ·simp only [if_neg hp]
  exact hS l h
end Go.Proofs.Ytfapckmobeppnaa.Px
