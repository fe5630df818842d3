/- telemeterlaw03.Name: a name as a choice says: its walk. -/
import Derived.Test.YtfapckmobeppnaaProg
import Derived.Test.YtfapckmobeppnaaWWords
import Derived.Test.YtfapckmobeppnaaWLast
import Derived.Test.YtfapckmobeppnaaWArr
import Derived.WalkKit
import Derived.WalkSpells
import Derived.KernelRfl
namespace Go.Proofs.Ytfapckmobeppnaa.Px
open Go.RowKit Go.Proofs.YtfapckmobeppnaaW.PrintWords Go.Proofs.YtfapckmobeppnaaW.PrintLast Go.Proofs.YtfapckmobeppnaaW.PrintMore
set_option linter.unusedVariables false
set_option linter.unusedSimpArgs false

def Spn.nm (c : Int) : ByteArray := (⟨#[115, 118, 99, 45, 97, 47, 98, 46, 99, 95, 100, 126, 33, 71, 69, 84]⟩ : ByteArray).extract (c % 8).toNat (c % 8 + 1 + c / 8 % 8).toNat
def telemeterlaw03_Name.f (a0 : Int) : Option ByteArray := if 0 ≤ a0 ∧ a0 ≤ 255 then some (Spn.nm a0) else none
theorem Spn.nm_eq (c : Int) (h : 0 ≤ c ∧ c ≤ 255) : telemeterlaw03_Name.f c = some (Spn.nm c) := by rw [telemeterlaw03_Name.f, if_pos h]
theorem Spn.Name_calls (a0 : Int) (r : ByteArray) (w : World) (h : telemeterlaw03_Name.f a0 = some r) :
  Calls Try.prog 22 #[.int .u8 a0] w fun e w' => e = .returned (.string r) ∧ Drawn0 w w' := by
 have h0 : 0 ≤ a0 ∧ a0 ≤ 255 := by
  by_cases h0 : 0 ≤ a0 ∧ a0 ≤ 255
  ·exact h0
  ·rw [telemeterlaw03_Name.f, if_neg h0] at h; cases h
 rw [Spn.nm_eq a0 h0] at h
 obtain rfl := Option.some.inj h
 go_enter Try.func22, Try.ntmps22
 go_wp2_with (fail)
 go_ret
 exact ⟨rfl, Drawn0.refl _⟩
end Go.Proofs.Ytfapckmobeppnaa.Px
