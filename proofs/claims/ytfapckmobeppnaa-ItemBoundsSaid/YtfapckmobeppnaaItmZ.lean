/- RightSpan, RightLog, known, as the print takes them. -/
import Derived.Test.YtfapckmobeppnaaItmQ
namespace Go.Proofs.Ytfapckmobeppnaa.Px
open Go.RowKit Go.Proofs.YtfapckmobeppnaaW.PrintWords Go.Proofs.YtfapckmobeppnaaW.PrintLast Go.Proofs.YtfapckmobeppnaaW.PrintMore
set_option linter.unusedVariables false
set_option linter.unusedSimpArgs false

def telemeterlaw03_known.f : Option Bool := some true
theorem Itm.known_calls' (r : Bool) (w : World) (h : telemeterlaw03_known.f = some r) : Calls Try.prog 12 #[] w fun e w' => e = .returned (.bool r) ∧ Below w.heap.size w w' := by
  obtain rfl := Option.some.inj h
  exact Itm.known_calls w
def item_RightLog.f (k : ByteArray) (wt t : Int) (b : ByteArray) : Option Bool := if k.size ≤ 140737488355328 then some (Itm.rightLog k wt t b) else none
theorem Itm.RightLog_calls' (k : ByteArray) (wt t : Int) (b : ByteArray) (r : Bool) (w : World) (h : item_RightLog.f k wt t b = some r) :
    Calls Try.prog 14 #[.agg #[.string k, .int .u64 wt, .int .i64 t, .string b]] w fun e w' => e = .returned (.bool r) ∧ Below w.heap.size w w' := by
  unfold item_RightLog.f at h
  split at h
  · obtain rfl := Option.some.inj h
    exact Itm.RightLog_calls k wt t b w (by assumption)
  · cases h
def item_RightSpan.f (a0_0 a0_1 a0_2 a0_3 : Int) (a0_4 : ByteArray) (a0_5 a0_6 : Int) (a0_7 : Bool) (l0_8 : List S36) (a0_9 : Int) : Option Bool :=
  if a0_4.size ≤ 140737488355328 ∧ (l0_8.all fun a => decide (a.f0.size ≤ 140737488355328)) = true then some (Itm.rightSpan a0_0 a0_1 a0_2 a0_4 a0_5 a0_6 l0_8 a0_9) else none
theorem Itm.RightSpan_calls' (a0_0 a0_1 a0_2 a0_3 : Int) (a0_4 : ByteArray) (a0_5 a0_6 : Int) (a0_7 : Bool) (A0_8 : Option Addr) (c0_8 : Nat) (l0_8 : List S36) (a0_9 : Int) (r : Bool) (w : World) (hr : Kd.C k36 w A0_8 l0_8.length l0_8) (hc : l0_8.length ≤ c0_8) (h : item_RightSpan.f a0_0 a0_1 a0_2 a0_3 a0_4 a0_5 a0_6 a0_7 l0_8 a0_9 = some r) :
    Calls Try.prog 13 #[.agg #[.int .u64 a0_0, .int .u64 a0_1, .int .u64 a0_2, .int .u64 a0_3, .string a0_4, .int .i64 a0_5, .int .i64 a0_6, .bool a0_7, .slice A0_8 l0_8.length c0_8, .int .u64 a0_9]] w fun e w' => e = .returned (.bool r) ∧ Below w.heap.size w w' := by
  unfold item_RightSpan.f at h
  split at h
  · rename_i hq
    obtain rfl := Option.some.inj h
    refine Itm.RightSpan_calls a0_0 a0_1 a0_2 a0_3 a0_4 a0_5 a0_6 a0_7 A0_8 c0_8 l0_8 a0_9 w hr hc (fun a ha => ?_) hq.1
    have := List.all_eq_true.mp hq.2 a ha
    exact of_decide_eq_true this
  · cases h
end Go.Proofs.Ytfapckmobeppnaa.Px
