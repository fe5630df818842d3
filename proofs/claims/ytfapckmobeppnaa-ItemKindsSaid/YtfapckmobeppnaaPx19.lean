-- Laid by a program of this session (wip/xprint.py: the kit's print.py, with functions given by hand). Lean checks it.
import Derived.Test.YtfapckmobeppnaaPx0
import Derived.Test.YtfapckmobeppnaaItmG
namespace Go.Proofs.Ytfapckmobeppnaa.Px
open Go.RowKit Go.Proofs.YtfapckmobeppnaaW.PrintWords Go.Proofs.YtfapckmobeppnaaW.PrintLast Go.Proofs.YtfapckmobeppnaaW.PrintMore
attribute [local go_sem] max2_int min2_int max_two min_two max_three min_three max_four min_four   -- for this text's walks alone
set_option linter.unusedVariables false
set_option linter.unusedSimpArgs false

/-! ### item_Encode: function 19: given -/

theorem item_Encode.calls (a0_0 : Int) (a0_1 : Int) (a0_2 : Int) (a0_3 : Int) (a0_4 : Int) (a0_5 : ByteArray) (a0_6 : Int) (a0_7 : Int) (a0_8 : Bool) (A0_9 : Option Addr) (c0_9 : Nat) (l0_9 : List (S36)) (a0_10 : Int) (a0_11 : ByteArray) (a0_12 : Int) (a0_13 : Int) (a0_14 : ByteArray) (r1 : List Int) (r2 : Int) (w : World) (hr0_9 : Kd.C k36 w A0_9 l0_9.length l0_9) (hc0_9 : l0_9.length ≤ c0_9) (h : item_Encode.f a0_0 a0_1 a0_2 a0_3 a0_4 a0_5 a0_6 a0_7 a0_8 l0_9 a0_10 a0_11 a0_12 a0_13 a0_14 = some (r1, r2)) :
    Calls Try.prog 19 #[.agg #[.int .u8 a0_0, .int .u64 a0_1, .int .u64 a0_2, .int .u64 a0_3, .int .u64 a0_4, .string a0_5, .int .i64 a0_6, .int .i64 a0_7, .bool a0_8, .slice A0_9 l0_9.length c0_9, .int .u64 a0_10, .string a0_11, .int .u64 a0_12, .int .i64 a0_13, .string a0_14]] w fun e w' => ∃ v0_ : Value, e = .returned (.tuple #[v0_, .int .u16 r2]) ∧ Kd.R (Kd.int .u8) 5 w' w.heap.size (fun _ => True) v0_ r1 ∧ Below w.heap.size w w' := Itm.Encode_calls' a0_0 a0_1 a0_2 a0_3 a0_4 a0_5 a0_6 a0_7 a0_8 A0_9 c0_9 l0_9 a0_10 a0_11 a0_12 a0_13 a0_14 r1 r2 w hr0_9 hc0_9 h


end Go.Proofs.Ytfapckmobeppnaa.Px
