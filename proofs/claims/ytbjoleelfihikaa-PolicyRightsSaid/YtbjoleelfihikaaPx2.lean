-- Laid by a program of this session (wip/xprint.py: the kit's print.py, with functions given by hand). Lean checks it.
import Derived.Test.YtbjoleelfihikaaPx0
import Derived.Test.YtbjoleelfihikaaName
namespace Go.Proofs.Ytbjoleelfihikaa.Px
open Go.RowKit Go.Proofs.YtbjoleelfihikaaW.PrintWords Go.Proofs.YtbjoleelfihikaaW.PrintLast Go.Proofs.YtbjoleelfihikaaW.PrintMore
attribute [local go_sem] max2_int min2_int max_two min_two max_three min_three max_four min_four   -- for this text's walks alone
set_option linter.unusedVariables false
set_option linter.unusedSimpArgs false

/-! ### telemeterlaw03_Name: function 32: given -/

theorem telemeterlaw03_Name.calls (a0 : Int) (r : ByteArray) (w : World) (h : telemeterlaw03_Name.f a0 = some r) :
    Calls Try.prog 32 #[.int .u8 a0] w fun e w' => e = .returned (.string r) ∧ Drawn0 w w' := Spn.Name_calls a0 r w h


end Go.Proofs.Ytbjoleelfihikaa.Px
