/-
  No cell of these rows narrows 'for every input' (looked for: loops, veiled, ifaces, maps, wideKeys, modest, calm, conditions, laid).
  DERIVED. THE GIVEN ROWS OF THIS SEAT. 6 by the template 'for every input the law returns true; each argument reads behind the call as it read before'; 0 by the template 'total and deterministic' (their statements: YtbjoleelfihikaaTotals.lean).
  GIVEN WITH THE SEED: the statements are not yours to turn. If you find one false, say at which input.
  Laid BY PROGRAM, IN A SANDBOX (cutbox-rows.mjs): the forced cells as the released guide's own fill.sh prints them over the translation 509f90651e477557… (all of the seat's roots in one cut). By AI agents, Wed Nov 11 2026. No macro, syntax, notation, axiom, sorry.
-/
import Derived.Test.YtbjoleelfihikaaChecked
import GoSem.Claim
import GoSem.ClaimJoined
import GoSem.ClaimMapViews
import Derived.JoinedTies
import Derived.KernelRfl
namespace Go.Proofs.Ytbjoleelfihikaa
/- THE CELL 'sum', in the pinned program and in every row, IS THE sha256 OF THE DUMP (.gsa) THAT YtbjoleelfihikaaProg.lean LOADS. Nothing in Lean hashes anything: it is a label: what it is worth is what the hold of that sum in a sandbox is worth. -/
noncomputable def Try.pinned : Pinned := { name := "ytbjoleelfihikaa", sum := "509f90651e477557f8c0ecfd3943bae80cd94c12128d0d3a668fd36d6f201b01", checked := Try.checked }
namespace Rows
def none {H : Type} : Left H := { results := [], args := [] }

/-- 'telemeterlaw12.PolicyBoth': WHATEVER THE INPUT: true; the input reads as it did. -/
def policyBothSpec : ChangeSpec := { name := "policyBoth", fn := fun _ => fun
  | [d1, d2, d3, d4] => { results := [.lit (.bool true)], args := [d1, d2, d3, d4] }
  | _ => none }
def policyBothRow : OpenClaim := { program := "ytbjoleelfihikaa", sum := "509f90651e477557f8c0ecfd3943bae80cd94c12128d0d3a668fd36d6f201b01", func := "telemeter/telemeterlaw12.PolicyBoth", spec := "policyBoth", unfollowed := true, recurses := true, apart := false }
def PolicyBothSaid : Prop := policyBothRow.holds Try.pinned (OpenSpec.ofChange policyBothSpec)

/-- ITS FALSE NEIGHBOUR: 'it returns false'. Refute it at one input. -/
def policyBothWrong : ChangeSpec := { name := "policyBoth", fn := fun _ => fun
  | [d1, d2, d3, d4] => { results := [.lit (.bool false)], args := [d1, d2, d3, d4] }
  | _ => none }
def PolicyBothWrongFalsely : Prop := policyBothRow.holds Try.pinned (OpenSpec.ofChange policyBothWrong)

/-- 'telemeterlaw12.PolicyFew': WHATEVER THE INPUT: true; the input reads as it did. -/
def policyFewSpec : ChangeSpec := { name := "policyFew", fn := fun _ => fun
  | [d1, d2, d3] => { results := [.lit (.bool true)], args := [d1, d2, d3] }
  | _ => none }
def policyFewRow : OpenClaim := { program := "ytbjoleelfihikaa", sum := "509f90651e477557f8c0ecfd3943bae80cd94c12128d0d3a668fd36d6f201b01", func := "telemeter/telemeterlaw12.PolicyFew", spec := "policyFew", unfollowed := true, recurses := true, apart := false }
def PolicyFewSaid : Prop := policyFewRow.holds Try.pinned (OpenSpec.ofChange policyFewSpec)

/-- ITS FALSE NEIGHBOUR: 'it returns false'. Refute it at one input. -/
def policyFewWrong : ChangeSpec := { name := "policyFew", fn := fun _ => fun
  | [d1, d2, d3] => { results := [.lit (.bool false)], args := [d1, d2, d3] }
  | _ => none }
def PolicyFewWrongFalsely : Prop := policyFewRow.holds Try.pinned (OpenSpec.ofChange policyFewWrong)

/-- 'telemeterlaw12.PolicyRights': WHATEVER THE INPUT: true; the input reads as it did. -/
def policyRightsSpec : ChangeSpec := { name := "policyRights", fn := fun _ => fun
  | [d1, d2, d3, d4, d5, d6] => { results := [.lit (.bool true)], args := [d1, d2, d3, d4, d5, d6] }
  | _ => none }
def policyRightsRow : OpenClaim := { program := "ytbjoleelfihikaa", sum := "509f90651e477557f8c0ecfd3943bae80cd94c12128d0d3a668fd36d6f201b01", func := "telemeter/telemeterlaw12.PolicyRights", spec := "policyRights", unfollowed := true, recurses := true, apart := false }
def PolicyRightsSaid : Prop := policyRightsRow.holds Try.pinned (OpenSpec.ofChange policyRightsSpec)

/-- ITS FALSE NEIGHBOUR: 'it returns false'. Refute it at one input. -/
def policyRightsWrong : ChangeSpec := { name := "policyRights", fn := fun _ => fun
  | [d1, d2, d3, d4, d5, d6] => { results := [.lit (.bool false)], args := [d1, d2, d3, d4, d5, d6] }
  | _ => none }
def PolicyRightsWrongFalsely : Prop := policyRightsRow.holds Try.pinned (OpenSpec.ofChange policyRightsWrong)

/-- 'telemeterlaw12.PolicyTells': WHATEVER THE INPUT: true; the input reads as it did. -/
def policyTellsSpec : ChangeSpec := { name := "policyTells", fn := fun _ => fun
  | [d1, d2, d3, d4, d5] => { results := [.lit (.bool true)], args := [d1, d2, d3, d4, d5] }
  | _ => none }
def policyTellsRow : OpenClaim := { program := "ytbjoleelfihikaa", sum := "509f90651e477557f8c0ecfd3943bae80cd94c12128d0d3a668fd36d6f201b01", func := "telemeter/telemeterlaw12.PolicyTells", spec := "policyTells", unfollowed := true, recurses := true, apart := false }
def PolicyTellsSaid : Prop := policyTellsRow.holds Try.pinned (OpenSpec.ofChange policyTellsSpec)

/-- ITS FALSE NEIGHBOUR: 'it returns false'. Refute it at one input. -/
def policyTellsWrong : ChangeSpec := { name := "policyTells", fn := fun _ => fun
  | [d1, d2, d3, d4, d5] => { results := [.lit (.bool false)], args := [d1, d2, d3, d4, d5] }
  | _ => none }
def PolicyTellsWrongFalsely : Prop := policyTellsRow.holds Try.pinned (OpenSpec.ofChange policyTellsWrong)

/-- 'telemeterlaw12.PolicyMore': WHATEVER THE INPUT: true; the input reads as it did. -/
def policyMoreSpec : ChangeSpec := { name := "policyMore", fn := fun _ => fun
  | [d1, d2, d3, d4, d5] => { results := [.lit (.bool true)], args := [d1, d2, d3, d4, d5] }
  | _ => none }
def policyMoreRow : OpenClaim := { program := "ytbjoleelfihikaa", sum := "509f90651e477557f8c0ecfd3943bae80cd94c12128d0d3a668fd36d6f201b01", func := "telemeter/telemeterlaw12.PolicyMore", spec := "policyMore", unfollowed := true, recurses := true, apart := false }
def PolicyMoreSaid : Prop := policyMoreRow.holds Try.pinned (OpenSpec.ofChange policyMoreSpec)

/-- ITS FALSE NEIGHBOUR: 'it returns false'. Refute it at one input. -/
def policyMoreWrong : ChangeSpec := { name := "policyMore", fn := fun _ => fun
  | [d1, d2, d3, d4, d5] => { results := [.lit (.bool false)], args := [d1, d2, d3, d4, d5] }
  | _ => none }
def PolicyMoreWrongFalsely : Prop := policyMoreRow.holds Try.pinned (OpenSpec.ofChange policyMoreWrong)

/-- 'telemeterlaw12.PolicyRows': WHATEVER THE INPUT: true; the input reads as it did. -/
def policyRowsSpec : ChangeSpec := { name := "policyRows", fn := fun _ => fun
  | [d1, d2, d3] => { results := [.lit (.bool true)], args := [d1, d2, d3] }
  | _ => none }
def policyRowsRow : OpenClaim := { program := "ytbjoleelfihikaa", sum := "509f90651e477557f8c0ecfd3943bae80cd94c12128d0d3a668fd36d6f201b01", func := "telemeter/telemeterlaw12.PolicyRows", spec := "policyRows", unfollowed := true, recurses := true, apart := false }
def PolicyRowsSaid : Prop := policyRowsRow.holds Try.pinned (OpenSpec.ofChange policyRowsSpec)

/-- ITS FALSE NEIGHBOUR: 'it returns false'. Refute it at one input. -/
def policyRowsWrong : ChangeSpec := { name := "policyRows", fn := fun _ => fun
  | [d1, d2, d3] => { results := [.lit (.bool false)], args := [d1, d2, d3] }
  | _ => none }
def PolicyRowsWrongFalsely : Prop := policyRowsRow.holds Try.pinned (OpenSpec.ofChange policyRowsWrong)

/- THE SECOND FORM. 'bulk': how many values and letters a reading holds, each counted each time it is reached (what is shared counts as often as it is met; a slice's spare places count too). A statement '..UptoSaid' is the law's where the arguments, and the package variables that the reading takes, are together of bulk at most 1048576: NARROWER than '..Said'. Prove '..Said' where nothing that the law and all that it calls make is longer than what came in: it says more and counts as full. Else prove '..UptoSaid'. A law counts once. -/
mutual
def uptoBulk {H : Type} : DataW H → Nat
  | .lit (.string bytes) => bytes.length + 1
  | .lit _ => 1
  | .nil => 1
  | .ptr d => uptoBulk d + 1
  | .slice elems spare => uptoBulkAll elems + uptoBulkAll spare + 1
  | .agg parts => uptoBulkAll parts + 1
  | .iface _ d => uptoBulk d + 1
  | .map entries => uptoBulkEntries entries + 1
  | .held _ => 1
def uptoBulkAll {H : Type} : List (DataW H) → Nat
  | [] => 0
  | d :: r => uptoBulk d + uptoBulkAll r
def uptoBulkEntries {H : Type} : List (Lit × DataW H) → Nat
  | [] => 0
  | x :: r => uptoBulkEntry x + uptoBulkEntries r
def uptoBulkEntry {H : Type} : Lit × DataW H → Nat
  | (.string bytes, d) => bytes.length + uptoBulk d + 1
  | (_, d) => uptoBulk d + 1
 end
def uptoSmall : (H : Type) → List (DataW H) → Bool := fun _ ds => decide (uptoBulkAll ds ≤ 1048576)
def OpenSpec.upto (s : _root_.Go.ChangeSpec) : _root_.Go.OpenSpec := { _root_.Go.OpenSpec.ofChange s with cond := some uptoSmall }

/-- 'telemeterlaw12.PolicyBoth', WHERE WHAT IT READS IS OF BULK AT MOST 1048576: true; the input reads as it did. -/
def policyBothUptoRow : OpenClaim := { program := "ytbjoleelfihikaa", sum := "509f90651e477557f8c0ecfd3943bae80cd94c12128d0d3a668fd36d6f201b01", func := "telemeter/telemeterlaw12.PolicyBoth", spec := "policyBoth", unfollowed := true, recurses := true, apart := false, narrowed := true }
def PolicyBothUptoSaid : Prop := policyBothUptoRow.holds Try.pinned (OpenSpec.upto policyBothSpec)

/-- 'telemeterlaw12.PolicyFew', WHERE WHAT IT READS IS OF BULK AT MOST 1048576: true; the input reads as it did. -/
def policyFewUptoRow : OpenClaim := { program := "ytbjoleelfihikaa", sum := "509f90651e477557f8c0ecfd3943bae80cd94c12128d0d3a668fd36d6f201b01", func := "telemeter/telemeterlaw12.PolicyFew", spec := "policyFew", unfollowed := true, recurses := true, apart := false, narrowed := true }
def PolicyFewUptoSaid : Prop := policyFewUptoRow.holds Try.pinned (OpenSpec.upto policyFewSpec)

/-- 'telemeterlaw12.PolicyRights', WHERE WHAT IT READS IS OF BULK AT MOST 1048576: true; the input reads as it did. -/
def policyRightsUptoRow : OpenClaim := { program := "ytbjoleelfihikaa", sum := "509f90651e477557f8c0ecfd3943bae80cd94c12128d0d3a668fd36d6f201b01", func := "telemeter/telemeterlaw12.PolicyRights", spec := "policyRights", unfollowed := true, recurses := true, apart := false, narrowed := true }
def PolicyRightsUptoSaid : Prop := policyRightsUptoRow.holds Try.pinned (OpenSpec.upto policyRightsSpec)

/-- 'telemeterlaw12.PolicyTells', WHERE WHAT IT READS IS OF BULK AT MOST 1048576: true; the input reads as it did. -/
def policyTellsUptoRow : OpenClaim := { program := "ytbjoleelfihikaa", sum := "509f90651e477557f8c0ecfd3943bae80cd94c12128d0d3a668fd36d6f201b01", func := "telemeter/telemeterlaw12.PolicyTells", spec := "policyTells", unfollowed := true, recurses := true, apart := false, narrowed := true }
def PolicyTellsUptoSaid : Prop := policyTellsUptoRow.holds Try.pinned (OpenSpec.upto policyTellsSpec)

/-- 'telemeterlaw12.PolicyMore', WHERE WHAT IT READS IS OF BULK AT MOST 1048576: true; the input reads as it did. -/
def policyMoreUptoRow : OpenClaim := { program := "ytbjoleelfihikaa", sum := "509f90651e477557f8c0ecfd3943bae80cd94c12128d0d3a668fd36d6f201b01", func := "telemeter/telemeterlaw12.PolicyMore", spec := "policyMore", unfollowed := true, recurses := true, apart := false, narrowed := true }
def PolicyMoreUptoSaid : Prop := policyMoreUptoRow.holds Try.pinned (OpenSpec.upto policyMoreSpec)

/-- 'telemeterlaw12.PolicyRows', WHERE WHAT IT READS IS OF BULK AT MOST 1048576: true; the input reads as it did. -/
def policyRowsUptoRow : OpenClaim := { program := "ytbjoleelfihikaa", sum := "509f90651e477557f8c0ecfd3943bae80cd94c12128d0d3a668fd36d6f201b01", func := "telemeter/telemeterlaw12.PolicyRows", spec := "policyRows", unfollowed := true, recurses := true, apart := false, narrowed := true }
def PolicyRowsUptoSaid : Prop := policyRowsUptoRow.holds Try.pinned (OpenSpec.upto policyRowsSpec)

end Rows
end Go.Proofs.Ytbjoleelfihikaa
