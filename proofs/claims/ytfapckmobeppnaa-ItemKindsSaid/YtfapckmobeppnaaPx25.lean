-- Laid by a program of this session (wip/xprint.py: the kit's print.py, with functions given by hand). Lean checks it.
import Derived.Test.YtfapckmobeppnaaPx0
import Derived.Test.YtfapckmobeppnaaItmZ
namespace Go.Proofs.Ytfapckmobeppnaa.Px
open Go.RowKit Go.Proofs.YtfapckmobeppnaaW.PrintWords Go.Proofs.YtfapckmobeppnaaW.PrintLast Go.Proofs.YtfapckmobeppnaaW.PrintMore
attribute [local go_sem] max2_int min2_int max_two min_two max_three min_three max_four min_four   -- for this text's walks alone
set_option linter.unusedVariables false
set_option linter.unusedSimpArgs false

/-! ### telemeterlaw03_known: function 12: given -/

theorem telemeterlaw03_known.calls (r : Bool) (w : World) (h : telemeterlaw03_known.f = some r) :
    Calls Try.prog 12 #[] w fun e w' => e = .returned (.bool r) ∧ Below w.heap.size w w' := Itm.known_calls' r w h


end Go.Proofs.Ytfapckmobeppnaa.Px
