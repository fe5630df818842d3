-- Laid by a program of this session (wip/xprint.py: the kit's print.py, with functions given by hand). Lean checks it.
import Derived.Test.YtbjoleelfihikaaPx0
import Derived.Test.YtbjoleelfihikaaPolA
namespace Go.Proofs.Ytbjoleelfihikaa.Px
open Go.RowKit Go.Proofs.YtbjoleelfihikaaW.PrintWords Go.Proofs.YtbjoleelfihikaaW.PrintLast Go.Proofs.YtbjoleelfihikaaW.PrintMore
attribute [local go_sem] max2_int min2_int max_two min_two max_three min_three max_four min_four   -- for this text's walks alone
set_option linter.unusedVariables false
set_option linter.unusedSimpArgs false

/-! ### policy_Which: function 13: given -/

theorem policy_Which.calls (A0 : Option Addr) (c0 : Nat) (l0 : List (List S39)) (A1 : Option Addr) (c1 : Nat) (l1 : List S36) (n : Int) (r : Int) (w : World) (hr0 : Kd.C (Kd.slice 39 k39) w A0 l0.length l0) (hc0 : l0.length ≤ c0) (hr1 : Kd.C k36 w A1 l1.length l1) (hc1 : l1.length ≤ c1) (h : policy_Which.f l0 l1 n = some r) :
    Calls Try.prog 13 #[.slice A0 l0.length c0, .slice A1 l1.length c1, .int .u64 n] w fun e w' => e = .returned (.int .i64 r) ∧ Below w.heap.size w w' := Pol.Which_calls A0 c0 l0 A1 c1 l1 n r w hr0 hc0 hr1 hc1 h


end Go.Proofs.Ytbjoleelfihikaa.Px
