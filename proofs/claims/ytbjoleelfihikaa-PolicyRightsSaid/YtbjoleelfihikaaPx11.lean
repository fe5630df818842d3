-- Laid by a program of this session (wip/xprint.py: the kit's print.py, with functions given by hand). Lean checks it.
import Derived.Test.YtbjoleelfihikaaPx0
import Derived.Test.YtbjoleelfihikaaPolA
namespace Go.Proofs.Ytbjoleelfihikaa.Px
open Go.RowKit Go.Proofs.YtbjoleelfihikaaW.PrintWords Go.Proofs.YtbjoleelfihikaaW.PrintLast Go.Proofs.YtbjoleelfihikaaW.PrintMore
attribute [local go_sem] max2_int min2_int max_two min_two max_three min_three max_four min_four   -- for this text's walks alone
set_option linter.unusedVariables false
set_option linter.unusedSimpArgs false

/-! ### policy_Holds: function 14: given -/

theorem policy_Holds.calls (a0 a1 : Int) (a2 a3 : ByteArray) (A1 : Option Addr) (c1 : Nat) (l1 : List S36) (n : Int) (r : Bool) (w : World) (hr1 : Kd.C k36 w A1 l1.length l1) (hc1 : l1.length ≤ c1) (h : policy_Holds.f a0 a1 a2 a3 l1 n = some r) :
    Calls Try.prog 14 #[.agg #[.int .u8 a0, .int .i64 a1, .string a2, .string a3], .slice A1 l1.length c1, .int .u64 n] w fun e w' => e = .returned (.bool r) ∧ Below w.heap.size w w' := Pol.Holds_calls a0 a1 a2 a3 A1 c1 l1 n r w hr1 hc1 h


end Go.Proofs.Ytbjoleelfihikaa.Px
