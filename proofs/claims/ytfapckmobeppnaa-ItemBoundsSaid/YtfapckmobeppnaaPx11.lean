-- Laid by a program of this session (wip/xprint.py: the kit's print.py, with functions given by hand). Lean checks it.
import Derived.Test.YtfapckmobeppnaaPx0
import Derived.Test.YtfapckmobeppnaaItmZ
namespace Go.Proofs.Ytfapckmobeppnaa.Px
open Go.RowKit Go.Proofs.YtfapckmobeppnaaW.PrintWords Go.Proofs.YtfapckmobeppnaaW.PrintLast Go.Proofs.YtfapckmobeppnaaW.PrintMore
attribute [local go_sem] max2_int min2_int max_two min_two max_three min_three max_four min_four   -- for this text's walks alone
set_option linter.unusedVariables false
set_option linter.unusedSimpArgs false

/-! ### item_RightLog: function 14: given -/

theorem item_RightLog.calls (a0_0 : ByteArray) (a0_1 : Int) (a0_2 : Int) (a0_3 : ByteArray) (r : Bool) (w : World) (h : item_RightLog.f a0_0 a0_1 a0_2 a0_3 = some r) :
    Calls Try.prog 14 #[.agg #[.string a0_0, .int .u64 a0_1, .int .i64 a0_2, .string a0_3]] w fun e w' => e = .returned (.bool r) ∧ Below w.heap.size w w' := Itm.RightLog_calls' a0_0 a0_1 a0_2 a0_3 r w h


end Go.Proofs.Ytfapckmobeppnaa.Px
