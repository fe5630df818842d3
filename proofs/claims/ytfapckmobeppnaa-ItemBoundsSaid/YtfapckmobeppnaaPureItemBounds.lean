/- The law ItemBounds holds of what the program computes: a span ends no earlier than it begins, and has a trace and a number; a log weighs something. No condition beyond the row's own. -/
import Derived.Test.YtfapckmobeppnaaPx26
import Derived.Test.YtfapckmobeppnaaItmB
namespace Go.Proofs.Ytfapckmobeppnaa.Pure
open Go.RowKit Go.Proofs.Ytfapckmobeppnaa.Px Go.Proofs.YtfapckmobeppnaaW.PrintWords Go.Proofs.YtfapckmobeppnaaW.PrintLast
set_option linter.unusedVariables false

theorem ItemBounds : telemeterlaw03_ItemBounds.Pure := by
  intro l0 a1 a2 hl hl2 hby ha1 ha2
  have hb : ∀ x ∈ l0, 0 ≤ x ∧ x ≤ 255 := fun x hx => u8_wf (hby x hx)
  have h1 := u8_wf ha1
  have h2 := u8_wf ha2
  obtain ⟨hi, lo, id, par, nm, st, en, bad, ats, rv, eS, S⟩ := ItB.span l0 hb
  obtain ⟨k, wt, t, b, eL, L⟩ := ItB.log l0 hb
  unfold telemeterlaw03_ItemBounds.f
  simp only [eS, eL, Option.bind_some]
  have hR : ∀ hi lo id st en, item_RightSpan.f hi lo id par nm st en bad ats rv = some (Itm.rightSpan hi lo id nm st en ats rv) := by
    intro hi lo id st en; unfold item_RightSpan.f; rw [if_pos ⟨S.size, S.all⟩]
  have hL : ∀ wt, item_RightLog.f k wt t b = some (Itm.rightLog k wt t b) := by
    intro wt; unfold item_RightLog.f; rw [if_pos (Nat.le_trans L.f5 (by decide))]
  have r1 : Itm.rightSpan hi lo id nm (wrap64 a1) (wrap64 a2) ats rv = decide (a1 ≤ a2) := by
    have e1 : wrap64 a1 = a1 := wrap64_id (by omega) (by omega)
    have e2 : wrap64 a2 = a2 := wrap64_id (by omega) (by omega)
    have t1 : Itm.timeB a1 = true := by unfold Itm.timeB; rw [decide_eq_true (by omega), decide_eq_true (by omega)]; rfl
    have t2 : Itm.timeB a2 = true := by unfold Itm.timeB; rw [decide_eq_true (by omega), decide_eq_true (by omega)]; rfl
    unfold Itm.rightSpan
    rw [e1, e2, S.o1, S.f1, S.f2, S.f3, t1, t2, S.f7, S.o3, decide_eq_true (p := (ats.length : Int) ≤ 8) (by have := S.o2; omega)]
    simp
  have r2 : Itm.rightSpan 0 0 id nm st en ats rv = false := by
    unfold Itm.rightSpan
    rw [show (Go.bits .or .u64 0 0 != 0) = false from by decide]; simp
  have r3 : Itm.rightSpan hi lo 0 nm st en ats rv = false := by
    unfold Itm.rightSpan
    rw [show ((0 : Int) != 0) = false from by decide]; simp
  have r4 : Itm.rightLog k 0 t b = false := by
    unfold Itm.rightLog; simp
  rw [show telemeterlaw03_known.f = some true from rfl]
  simp only [hR, hL, r1, r2, r3, r4, S.right, L.right, Option.bind_some]
  simp
end Go.Proofs.Ytfapckmobeppnaa.Pure
