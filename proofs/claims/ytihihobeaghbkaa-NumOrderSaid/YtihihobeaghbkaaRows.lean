/-
  No cell of these rows narrows 'for every input' (looked for: loops, veiled, ifaces, maps, wideKeys, modest, calm, conditions, laid).
  DERIVED. THE GIVEN ROWS OF THIS SEAT. 8 by the template 'for every input the law returns true; each argument reads behind the call as it read before'; 0 by the template 'total and deterministic' (their statements: YtihihobeaghbkaaTotals.lean).
  GIVEN WITH THE SEED: the statements are not yours to turn. If you find one false, say at which input.
  Laid BY PROGRAM, IN A SANDBOX (cutbox-rows.mjs): the forced cells as the released guide's own fill.sh prints them over the translation db56a0a182809a62… (all of the seat's roots in one cut). By AI agents, Wed Nov 11 2026. No macro, syntax, notation, axiom, sorry.
-/
import Derived.Test.YtihihobeaghbkaaChecked
import GoSem.Claim
import GoSem.ClaimJoined
import GoSem.ClaimMapViews
import Derived.JoinedTies
import Derived.KernelRfl
namespace Go.Proofs.Ytihihobeaghbkaa
/- THE CELL 'sum', in the pinned program and in every row, IS THE sha256 OF THE DUMP (.gsa) THAT YtihihobeaghbkaaProg.lean LOADS. Nothing in Lean hashes anything: it is a label: what it is worth is what the hold of that sum in a sandbox is worth. -/
noncomputable def Try.pinned : Pinned := { name := "ytihihobeaghbkaa", sum := "db56a0a182809a623c22d089a197abe96a190b254e2a4048ac1d3972e03ffa95", checked := Try.checked }
namespace Rows
def none {H : Type} : Left H := { results := [], args := [] }

/-- 'telemeterlaw01.NumLong': WHATEVER THE INPUT: true; the input reads as it did. -/
def numLongSpec : ChangeSpec := { name := "numLong", fn := fun _ => fun
  | [d1, d2] => { results := [.lit (.bool true)], args := [d1, d2] }
  | _ => none }
def numLongRow : OpenClaim := { program := "ytihihobeaghbkaa", sum := "db56a0a182809a623c22d089a197abe96a190b254e2a4048ac1d3972e03ffa95", func := "telemeter/telemeterlaw01.NumLong", spec := "numLong", unfollowed := true, recurses := true, apart := false }
def NumLongSaid : Prop := numLongRow.holds Try.pinned (OpenSpec.ofChange numLongSpec)

/-- ITS FALSE NEIGHBOUR: 'it returns false'. Refute it at one input. -/
def numLongWrong : ChangeSpec := { name := "numLong", fn := fun _ => fun
  | [d1, d2] => { results := [.lit (.bool false)], args := [d1, d2] }
  | _ => none }
def NumLongWrongFalsely : Prop := numLongRow.holds Try.pinned (OpenSpec.ofChange numLongWrong)

/-- 'telemeterlaw01.NumPlaces': WHATEVER THE INPUT: true; the input reads as it did. -/
def numPlacesSpec : ChangeSpec := { name := "numPlaces", fn := fun _ => fun
  | [d1, d2] => { results := [.lit (.bool true)], args := [d1, d2] }
  | _ => none }
def numPlacesRow : OpenClaim := { program := "ytihihobeaghbkaa", sum := "db56a0a182809a623c22d089a197abe96a190b254e2a4048ac1d3972e03ffa95", func := "telemeter/telemeterlaw01.NumPlaces", spec := "numPlaces", unfollowed := true, recurses := true, apart := false }
def NumPlacesSaid : Prop := numPlacesRow.holds Try.pinned (OpenSpec.ofChange numPlacesSpec)

/-- ITS FALSE NEIGHBOUR: 'it returns false'. Refute it at one input. -/
def numPlacesWrong : ChangeSpec := { name := "numPlaces", fn := fun _ => fun
  | [d1, d2] => { results := [.lit (.bool false)], args := [d1, d2] }
  | _ => none }
def NumPlacesWrongFalsely : Prop := numPlacesRow.holds Try.pinned (OpenSpec.ofChange numPlacesWrong)

/-- 'telemeterlaw01.NumPuts': WHATEVER THE INPUT: true; the input reads as it did. -/
def numPutsSpec : ChangeSpec := { name := "numPuts", fn := fun _ => fun
  | [d1, d2, d3] => { results := [.lit (.bool true)], args := [d1, d2, d3] }
  | _ => none }
def numPutsRow : OpenClaim := { program := "ytihihobeaghbkaa", sum := "db56a0a182809a623c22d089a197abe96a190b254e2a4048ac1d3972e03ffa95", func := "telemeter/telemeterlaw01.NumPuts", spec := "numPuts", unfollowed := true, recurses := true, apart := false }
def NumPutsSaid : Prop := numPutsRow.holds Try.pinned (OpenSpec.ofChange numPutsSpec)

/-- ITS FALSE NEIGHBOUR: 'it returns false'. Refute it at one input. -/
def numPutsWrong : ChangeSpec := { name := "numPuts", fn := fun _ => fun
  | [d1, d2, d3] => { results := [.lit (.bool false)], args := [d1, d2, d3] }
  | _ => none }
def NumPutsWrongFalsely : Prop := numPutsRow.holds Try.pinned (OpenSpec.ofChange numPutsWrong)

/-- 'telemeterlaw01.NumGets': WHATEVER THE INPUT: true; the input reads as it did. -/
def numGetsSpec : ChangeSpec := { name := "numGets", fn := fun _ => fun
  | [d1, d2, d3, d4, d5] => { results := [.lit (.bool true)], args := [d1, d2, d3, d4, d5] }
  | _ => none }
def numGetsRow : OpenClaim := { program := "ytihihobeaghbkaa", sum := "db56a0a182809a623c22d089a197abe96a190b254e2a4048ac1d3972e03ffa95", func := "telemeter/telemeterlaw01.NumGets", spec := "numGets", unfollowed := true, recurses := true, apart := false }
def NumGetsSaid : Prop := numGetsRow.holds Try.pinned (OpenSpec.ofChange numGetsSpec)

/-- ITS FALSE NEIGHBOUR: 'it returns false'. Refute it at one input. -/
def numGetsWrong : ChangeSpec := { name := "numGets", fn := fun _ => fun
  | [d1, d2, d3, d4, d5] => { results := [.lit (.bool false)], args := [d1, d2, d3, d4, d5] }
  | _ => none }
def NumGetsWrongFalsely : Prop := numGetsRow.holds Try.pinned (OpenSpec.ofChange numGetsWrong)

/-- 'telemeterlaw01.NumBack': WHATEVER THE INPUT: true; the input reads as it did. -/
def numBackSpec : ChangeSpec := { name := "numBack", fn := fun _ => fun
  | [d1, d2, d3, d4] => { results := [.lit (.bool true)], args := [d1, d2, d3, d4] }
  | _ => none }
def numBackRow : OpenClaim := { program := "ytihihobeaghbkaa", sum := "db56a0a182809a623c22d089a197abe96a190b254e2a4048ac1d3972e03ffa95", func := "telemeter/telemeterlaw01.NumBack", spec := "numBack", unfollowed := true, recurses := true, apart := false }
def NumBackSaid : Prop := numBackRow.holds Try.pinned (OpenSpec.ofChange numBackSpec)

/-- ITS FALSE NEIGHBOUR: 'it returns false'. Refute it at one input. -/
def numBackWrong : ChangeSpec := { name := "numBack", fn := fun _ => fun
  | [d1, d2, d3, d4] => { results := [.lit (.bool false)], args := [d1, d2, d3, d4] }
  | _ => none }
def NumBackWrongFalsely : Prop := numBackRow.holds Try.pinned (OpenSpec.ofChange numBackWrong)

/-- 'telemeterlaw01.NumSigns': WHATEVER THE INPUT: true; the input reads as it did. -/
def numSignsSpec : ChangeSpec := { name := "numSigns", fn := fun _ => fun
  | [d1, d2] => { results := [.lit (.bool true)], args := [d1, d2] }
  | _ => none }
def numSignsRow : OpenClaim := { program := "ytihihobeaghbkaa", sum := "db56a0a182809a623c22d089a197abe96a190b254e2a4048ac1d3972e03ffa95", func := "telemeter/telemeterlaw01.NumSigns", spec := "numSigns", unfollowed := true, recurses := true, apart := false }
def NumSignsSaid : Prop := numSignsRow.holds Try.pinned (OpenSpec.ofChange numSignsSpec)

/-- ITS FALSE NEIGHBOUR: 'it returns false'. Refute it at one input. -/
def numSignsWrong : ChangeSpec := { name := "numSigns", fn := fun _ => fun
  | [d1, d2] => { results := [.lit (.bool false)], args := [d1, d2] }
  | _ => none }
def NumSignsWrongFalsely : Prop := numSignsRow.holds Try.pinned (OpenSpec.ofChange numSignsWrong)

/-- 'telemeterlaw01.NumOne': WHATEVER THE INPUT: true; the input reads as it did. -/
def numOneSpec : ChangeSpec := { name := "numOne", fn := fun _ => fun
  | [d1, d2] => { results := [.lit (.bool true)], args := [d1, d2] }
  | _ => none }
def numOneRow : OpenClaim := { program := "ytihihobeaghbkaa", sum := "db56a0a182809a623c22d089a197abe96a190b254e2a4048ac1d3972e03ffa95", func := "telemeter/telemeterlaw01.NumOne", spec := "numOne", unfollowed := true, recurses := true, apart := false }
def NumOneSaid : Prop := numOneRow.holds Try.pinned (OpenSpec.ofChange numOneSpec)

/-- ITS FALSE NEIGHBOUR: 'it returns false'. Refute it at one input. -/
def numOneWrong : ChangeSpec := { name := "numOne", fn := fun _ => fun
  | [d1, d2] => { results := [.lit (.bool false)], args := [d1, d2] }
  | _ => none }
def NumOneWrongFalsely : Prop := numOneRow.holds Try.pinned (OpenSpec.ofChange numOneWrong)

/-- 'telemeterlaw01.NumOrder': WHATEVER THE INPUT: true; the input reads as it did. -/
def numOrderSpec : ChangeSpec := { name := "numOrder", fn := fun _ => fun
  | [d1, d2] => { results := [.lit (.bool true)], args := [d1, d2] }
  | _ => none }
def numOrderRow : OpenClaim := { program := "ytihihobeaghbkaa", sum := "db56a0a182809a623c22d089a197abe96a190b254e2a4048ac1d3972e03ffa95", func := "telemeter/telemeterlaw01.NumOrder", spec := "numOrder", unfollowed := true, recurses := true, apart := false }
def NumOrderSaid : Prop := numOrderRow.holds Try.pinned (OpenSpec.ofChange numOrderSpec)

/-- ITS FALSE NEIGHBOUR: 'it returns false'. Refute it at one input. -/
def numOrderWrong : ChangeSpec := { name := "numOrder", fn := fun _ => fun
  | [d1, d2] => { results := [.lit (.bool false)], args := [d1, d2] }
  | _ => none }
def NumOrderWrongFalsely : Prop := numOrderRow.holds Try.pinned (OpenSpec.ofChange numOrderWrong)

/- THE SECOND FORM. 'bulk': how many values and letters a reading holds, each counted each time it is reached (what is shared counts as often as it is met; a slice's spare places count too). A statement '..UptoSaid' is the law's where the arguments, and the package variables that the reading takes, are together of bulk at most 1048576: NARROWER than '..Said'. Prove '..Said' where nothing that the law and all that it calls make is longer than what came in: it says more and counts as full. Else prove '..UptoSaid'. A law counts once. -/
mutual
def uptoBulk {H : Type} : DataW H → Nat
  | .lit (.string bytes) => bytes.length + 1
  | .lit _ => 1
  | .nil => 1
  | .ptr d => uptoBulk d + 1
  | .slice elems spare => uptoBulkAll elems + uptoBulkAll spare + 1
  | .agg parts => uptoBulkAll parts + 1
  | .iface _ d => uptoBulk d + 1
  | .map entries => uptoBulkEntries entries + 1
  | .held _ => 1
def uptoBulkAll {H : Type} : List (DataW H) → Nat
  | [] => 0
  | d :: r => uptoBulk d + uptoBulkAll r
def uptoBulkEntries {H : Type} : List (Lit × DataW H) → Nat
  | [] => 0
  | x :: r => uptoBulkEntry x + uptoBulkEntries r
def uptoBulkEntry {H : Type} : Lit × DataW H → Nat
  | (.string bytes, d) => bytes.length + uptoBulk d + 1
  | (_, d) => uptoBulk d + 1
 end
def uptoSmall : (H : Type) → List (DataW H) → Bool := fun _ ds => decide (uptoBulkAll ds ≤ 1048576)
def OpenSpec.upto (s : _root_.Go.ChangeSpec) : _root_.Go.OpenSpec := { _root_.Go.OpenSpec.ofChange s with cond := some uptoSmall }

/-- 'telemeterlaw01.NumLong', WHERE WHAT IT READS IS OF BULK AT MOST 1048576: true; the input reads as it did. -/
def numLongUptoRow : OpenClaim := { program := "ytihihobeaghbkaa", sum := "db56a0a182809a623c22d089a197abe96a190b254e2a4048ac1d3972e03ffa95", func := "telemeter/telemeterlaw01.NumLong", spec := "numLong", unfollowed := true, recurses := true, apart := false, narrowed := true }
def NumLongUptoSaid : Prop := numLongUptoRow.holds Try.pinned (OpenSpec.upto numLongSpec)

/-- 'telemeterlaw01.NumPlaces', WHERE WHAT IT READS IS OF BULK AT MOST 1048576: true; the input reads as it did. -/
def numPlacesUptoRow : OpenClaim := { program := "ytihihobeaghbkaa", sum := "db56a0a182809a623c22d089a197abe96a190b254e2a4048ac1d3972e03ffa95", func := "telemeter/telemeterlaw01.NumPlaces", spec := "numPlaces", unfollowed := true, recurses := true, apart := false, narrowed := true }
def NumPlacesUptoSaid : Prop := numPlacesUptoRow.holds Try.pinned (OpenSpec.upto numPlacesSpec)

/-- 'telemeterlaw01.NumPuts', WHERE WHAT IT READS IS OF BULK AT MOST 1048576: true; the input reads as it did. -/
def numPutsUptoRow : OpenClaim := { program := "ytihihobeaghbkaa", sum := "db56a0a182809a623c22d089a197abe96a190b254e2a4048ac1d3972e03ffa95", func := "telemeter/telemeterlaw01.NumPuts", spec := "numPuts", unfollowed := true, recurses := true, apart := false, narrowed := true }
def NumPutsUptoSaid : Prop := numPutsUptoRow.holds Try.pinned (OpenSpec.upto numPutsSpec)

/-- 'telemeterlaw01.NumGets', WHERE WHAT IT READS IS OF BULK AT MOST 1048576: true; the input reads as it did. -/
def numGetsUptoRow : OpenClaim := { program := "ytihihobeaghbkaa", sum := "db56a0a182809a623c22d089a197abe96a190b254e2a4048ac1d3972e03ffa95", func := "telemeter/telemeterlaw01.NumGets", spec := "numGets", unfollowed := true, recurses := true, apart := false, narrowed := true }
def NumGetsUptoSaid : Prop := numGetsUptoRow.holds Try.pinned (OpenSpec.upto numGetsSpec)

/-- 'telemeterlaw01.NumBack', WHERE WHAT IT READS IS OF BULK AT MOST 1048576: true; the input reads as it did. -/
def numBackUptoRow : OpenClaim := { program := "ytihihobeaghbkaa", sum := "db56a0a182809a623c22d089a197abe96a190b254e2a4048ac1d3972e03ffa95", func := "telemeter/telemeterlaw01.NumBack", spec := "numBack", unfollowed := true, recurses := true, apart := false, narrowed := true }
def NumBackUptoSaid : Prop := numBackUptoRow.holds Try.pinned (OpenSpec.upto numBackSpec)

/-- 'telemeterlaw01.NumSigns', WHERE WHAT IT READS IS OF BULK AT MOST 1048576: true; the input reads as it did. -/
def numSignsUptoRow : OpenClaim := { program := "ytihihobeaghbkaa", sum := "db56a0a182809a623c22d089a197abe96a190b254e2a4048ac1d3972e03ffa95", func := "telemeter/telemeterlaw01.NumSigns", spec := "numSigns", unfollowed := true, recurses := true, apart := false, narrowed := true }
def NumSignsUptoSaid : Prop := numSignsUptoRow.holds Try.pinned (OpenSpec.upto numSignsSpec)

/-- 'telemeterlaw01.NumOne', WHERE WHAT IT READS IS OF BULK AT MOST 1048576: true; the input reads as it did. -/
def numOneUptoRow : OpenClaim := { program := "ytihihobeaghbkaa", sum := "db56a0a182809a623c22d089a197abe96a190b254e2a4048ac1d3972e03ffa95", func := "telemeter/telemeterlaw01.NumOne", spec := "numOne", unfollowed := true, recurses := true, apart := false, narrowed := true }
def NumOneUptoSaid : Prop := numOneUptoRow.holds Try.pinned (OpenSpec.upto numOneSpec)

/-- 'telemeterlaw01.NumOrder', WHERE WHAT IT READS IS OF BULK AT MOST 1048576: true; the input reads as it did. -/
def numOrderUptoRow : OpenClaim := { program := "ytihihobeaghbkaa", sum := "db56a0a182809a623c22d089a197abe96a190b254e2a4048ac1d3972e03ffa95", func := "telemeter/telemeterlaw01.NumOrder", spec := "numOrder", unfollowed := true, recurses := true, apart := false, narrowed := true }
def NumOrderUptoSaid : Prop := numOrderUptoRow.holds Try.pinned (OpenSpec.upto numOrderSpec)

end Rows
end Go.Proofs.Ytihihobeaghbkaa
