/- The law ItemKinds holds of what the program computes: an item that is both a span and a log is none; of no kind else is there any. No condition beyond the row's own. -/
import Derived.Test.YtfapckmobeppnaaPx54
import Derived.Test.YtfapckmobeppnaaItmB
import Derived.Test.YtfapckmobeppnaaItmG
namespace Go.Proofs.Ytfapckmobeppnaa.Px
open Go.RowKit Go.Proofs.YtfapckmobeppnaaW.PrintWords Go.Proofs.YtfapckmobeppnaaW.PrintLast Go.Proofs.YtfapckmobeppnaaW.PrintMore
set_option linter.unusedVariables false
set_option linter.unusedSimpArgs false

theorem ItB.enG {hi lo id par : Int} {nm : ByteArray} {l : List S36} {rv : Int} {k : ByteArray} {wt : Int} (h1 : 0 ≤ hi ∧ hi < 18446744073709551616) (h2 : 0 ≤ lo ∧ lo < 18446744073709551616) (h3 : 0 ≤ id ∧ id < 18446744073709551616) (h4 : 0 ≤ par ∧ par < 18446744073709551616) (h5 : 0 ≤ rv ∧ rv < 18446744073709551616) (h6 : 0 ≤ wt ∧ wt < 18446744073709551616) (h7 : nm.size ≤ 60) (h8 : k.size ≤ 60) (h9 : ∀ a ∈ l, a.f0.size ≤ 60 ∧ a.f1.size ≤ 60) : Itm.enG hi lo id par nm l rv k wt = true := by
  unfold Itm.enG
  simp only [Bool.and_eq_true, Itm.u64B_iff, Itm.bigB_iff, List.all_eq_true]
  exact ⟨h1, h2, h3, h4, h5, h6, by omega, by omega, fun a ha => Nat.le_trans (h9 a ha).1 (by decide)⟩
theorem ItB.name_ne {s : ByteArray} (h : Itm.nameB s = true) : ¬ s.toList = [] := by
  intro h0
  unfold Itm.nameB at h
  rw [h0] at h
  simp at h
theorem ItB.empty_span {hi lo id par : Int} {nm : ByteArray} {st en : Int} {bad : Bool} {l : List S36} {rv : Int} (h : Itm.nameB nm = true) : ¬ item_empty.f hi lo id par nm st en bad l rv = some true := by
  unfold item_empty.f
  rw [if_neg (ItB.name_ne h)]
  split <;> simp
theorem ItB.zero_log (t : Int) (b : ByteArray) : Itm.rightLog ⟨#[]⟩ 0 t b = false := by
  unfold Itm.rightLog
  simp
theorem ItB.zero_span (nm : ByteArray) (st en : Int) (l : List S36) (rv : Int) : Itm.rightSpan 0 0 0 nm st en l rv = false := by
  unfold Itm.rightSpan
  simp
theorem ItB.nil_list : (⟨#[]⟩ : ByteArray).toList = [] := by
  have h := Itm.empty_eq ⟨#[]⟩
  rw [decide_eq_true (by rfl)] at h
  exact List.isEmpty_iff.mp h
theorem ItB.zero_empty : item_empty.f 0 0 0 0 ⟨#[]⟩ 0 0 false ([] : List S36) 0 = some true := by
  unfold item_empty.f
  rw [if_pos (by decide), if_pos ItB.nil_list, if_pos rfl, if_pos rfl, if_neg (by decide)]
  rfl
end Go.Proofs.Ytfapckmobeppnaa.Px
namespace Go.Proofs.Ytfapckmobeppnaa.Pure
open Go.RowKit Go.Proofs.Ytfapckmobeppnaa.Px Go.Proofs.YtfapckmobeppnaaW.PrintWords Go.Proofs.YtfapckmobeppnaaW.PrintLast
set_option linter.unusedVariables false

theorem ItemKinds : telemeterlaw03_ItemKinds.Pure := by
  intro l0 l1 a2 hl hl2 hby hm hm2 hby1 ha2
  have hb : ∀ x ∈ l0, 0 ≤ x ∧ x ≤ 255 := fun x hx => u8_wf (hby x hx)
  have hb1 : ∀ x ∈ l1, 0 ≤ x ∧ x ≤ 255 := fun x hx => u8_wf (hby1 x hx)
  obtain ⟨hi, lo, id, par, nm, st, en, bad, ats, rv, eS, S⟩ := ItB.span l0 hb
  obtain ⟨k, wt, t, b, eL, L⟩ := ItB.log l1 hb1
  have hL2 := L.f2
  unfold telemeterlaw03_ItemKinds.f
  simp only [eS, eL, Option.bind_some]
  have g1 : Itm.enG hi lo id par nm ats rv k wt = true := ItB.enG S.bh S.bl S.bi S.bp S.br (by omega) S.nz L.f5 S.o4
  have g2 : Itm.enG hi lo id par nm ats rv ⟨#[]⟩ 0 = true := ItB.enG S.bh S.bl S.bi S.bp S.br (by omega) S.nz (by decide) S.o4
  have g3 : Itm.enG 0 0 0 0 ⟨#[]⟩ ([] : List S36) 0 k wt = true := ItB.enG (by omega) (by omega) (by omega) (by omega) (by omega) (by omega) (by decide) L.f5 (fun a ha => by cases ha)
  have e1 : item_Encode.f a2 hi lo id par nm st en bad ats rv k wt t b = some ([], 40) := by
    unfold item_Encode.f
    rw [if_pos g1]
    split
    · rw [if_neg (fun h => by have := h.2.2.1; omega)]
    · split
      · rw [if_neg (fun h => ItB.empty_span S.f3 h.2)]
      · rfl
  have e2 : ∃ r, item_Encode.f a2 hi lo id par nm st en bad ats rv ⟨#[]⟩ 0 0 ⟨#[]⟩ = some (r, if a2 = 1 then 0 else 40) := by
    unfold item_Encode.f
    rw [if_pos g2]
    split
    · rw [if_pos ⟨S.right, ItB.nil_list, rfl, rfl, ItB.nil_list⟩]
      exact ⟨_, rfl⟩
    · split
      · rw [if_neg (fun h => by rw [ItB.zero_log] at h; exact absurd h.1 (by decide))]
        exact ⟨_, rfl⟩
      · exact ⟨_, rfl⟩
  have e3 : ∃ r, item_Encode.f a2 0 0 0 0 ⟨#[]⟩ 0 0 false ([] : List S36) 0 k wt t b = some (r, if a2 = 2 then 0 else 40) := by
    unfold item_Encode.f
    rw [if_pos g3]
    split
    · rw [if_neg (fun h => by rw [ItB.zero_span] at h; exact absurd h.1 (by decide)), if_neg (by omega)]
      exact ⟨_, rfl⟩
    · split
      · rw [if_pos ⟨L.right, ItB.zero_empty⟩]
        exact ⟨_, rfl⟩
      · exact ⟨_, rfl⟩
  obtain ⟨r2, e2⟩ := e2
  obtain ⟨r3, e3⟩ := e3
  rw [e1, Option.bind_some, e2, Option.bind_some, e3, Option.bind_some]
  rw [show telemeterlaw03_known.f = some true from rfl, Option.bind_some]
  by_cases q1 : a2 = 1
  · subst q1; rfl
  · by_cases q2 : a2 = 2
    · subst q2; rfl
    · rw [if_neg q1, if_neg q2, beq_eq_false_iff_ne.mpr q1, beq_eq_false_iff_ne.mpr q2]; rfl
end Go.Proofs.Ytfapckmobeppnaa.Pure
