/-
  No cell of these rows narrows 'for every input' (looked for: loops, veiled, ifaces, maps, wideKeys, modest, calm, conditions, laid).
  DERIVED. THE GIVEN ROWS OF THIS SEAT. 7 by the template 'for every input the law returns true; each argument reads behind the call as it read before'; 0 by the template 'total and deterministic' (their statements: YtfapckmobeppnaaTotals.lean).
  GIVEN WITH THE SEED: the statements are not yours to turn. If you find one false, say at which input.
  Laid BY PROGRAM, IN A SANDBOX (cutbox-rows.mjs): the forced cells as the released guide's own fill.sh prints them over the translation b13c7d9e86da8a3e… (all of the seat's roots in one cut). By AI agents, Wed Nov 11 2026. No macro, syntax, notation, axiom, sorry.
-/
import Derived.Test.YtfapckmobeppnaaChecked
import GoSem.Claim
import GoSem.ClaimJoined
import GoSem.ClaimMapViews
import Derived.JoinedTies
import Derived.KernelRfl
namespace Go.Proofs.Ytfapckmobeppnaa
/- THE CELL 'sum', in the pinned program and in every row, IS THE sha256 OF THE DUMP (.gsa) THAT YtfapckmobeppnaaProg.lean LOADS. Nothing in Lean hashes anything: it is a label: what it is worth is what the hold of that sum in a sandbox is worth. -/
noncomputable def Try.pinned : Pinned := { name := "ytfapckmobeppnaa", sum := "b13c7d9e86da8a3ee8977d15e351431987609f51b8496bf41e04013152e3d826", checked := Try.checked }
namespace Rows
def none {H : Type} : Left H := { results := [], args := [] }

/-- 'telemeterlaw03.ItemBounds': WHATEVER THE INPUT: true; the input reads as it did. -/
def itemBoundsSpec : ChangeSpec := { name := "itemBounds", fn := fun _ => fun
  | [d1, d2, d3] => { results := [.lit (.bool true)], args := [d1, d2, d3] }
  | _ => none }
def itemBoundsRow : OpenClaim := { program := "ytfapckmobeppnaa", sum := "b13c7d9e86da8a3ee8977d15e351431987609f51b8496bf41e04013152e3d826", func := "telemeter/telemeterlaw03.ItemBounds", spec := "itemBounds", unfollowed := true, recurses := true, apart := false }
def ItemBoundsSaid : Prop := itemBoundsRow.holds Try.pinned (OpenSpec.ofChange itemBoundsSpec)

/-- ITS FALSE NEIGHBOUR: 'it returns false'. Refute it at one input. -/
def itemBoundsWrong : ChangeSpec := { name := "itemBounds", fn := fun _ => fun
  | [d1, d2, d3] => { results := [.lit (.bool false)], args := [d1, d2, d3] }
  | _ => none }
def ItemBoundsWrongFalsely : Prop := itemBoundsRow.holds Try.pinned (OpenSpec.ofChange itemBoundsWrong)

/-- 'telemeterlaw03.ItemAttrs': WHATEVER THE INPUT: true; the input reads as it did. -/
def itemAttrsSpec : ChangeSpec := { name := "itemAttrs", fn := fun _ => fun
  | [d1, d2, d3] => { results := [.lit (.bool true)], args := [d1, d2, d3] }
  | _ => none }
def itemAttrsRow : OpenClaim := { program := "ytfapckmobeppnaa", sum := "b13c7d9e86da8a3ee8977d15e351431987609f51b8496bf41e04013152e3d826", func := "telemeter/telemeterlaw03.ItemAttrs", spec := "itemAttrs", unfollowed := true, recurses := true, apart := false }
def ItemAttrsSaid : Prop := itemAttrsRow.holds Try.pinned (OpenSpec.ofChange itemAttrsSpec)

/-- ITS FALSE NEIGHBOUR: 'it returns false'. Refute it at one input. -/
def itemAttrsWrong : ChangeSpec := { name := "itemAttrs", fn := fun _ => fun
  | [d1, d2, d3] => { results := [.lit (.bool false)], args := [d1, d2, d3] }
  | _ => none }
def ItemAttrsWrongFalsely : Prop := itemAttrsRow.holds Try.pinned (OpenSpec.ofChange itemAttrsWrong)

/-- 'telemeterlaw03.ItemEncodes': WHATEVER THE INPUT: true; the input reads as it did. -/
def itemEncodesSpec : ChangeSpec := { name := "itemEncodes", fn := fun _ => fun
  | [d1, d2, d3, d4, d5] => { results := [.lit (.bool true)], args := [d1, d2, d3, d4, d5] }
  | _ => none }
def itemEncodesRow : OpenClaim := { program := "ytfapckmobeppnaa", sum := "b13c7d9e86da8a3ee8977d15e351431987609f51b8496bf41e04013152e3d826", func := "telemeter/telemeterlaw03.ItemEncodes", spec := "itemEncodes", unfollowed := true, recurses := true, apart := false }
def ItemEncodesSaid : Prop := itemEncodesRow.holds Try.pinned (OpenSpec.ofChange itemEncodesSpec)

/-- ITS FALSE NEIGHBOUR: 'it returns false'. Refute it at one input. -/
def itemEncodesWrong : ChangeSpec := { name := "itemEncodes", fn := fun _ => fun
  | [d1, d2, d3, d4, d5] => { results := [.lit (.bool false)], args := [d1, d2, d3, d4, d5] }
  | _ => none }
def ItemEncodesWrongFalsely : Prop := itemEncodesRow.holds Try.pinned (OpenSpec.ofChange itemEncodesWrong)

/-- 'telemeterlaw03.ItemDecodes': WHATEVER THE INPUT: true; the input reads as it did. -/
def itemDecodesSpec : ChangeSpec := { name := "itemDecodes", fn := fun _ => fun
  | [d1, d2, d3, d4, d5] => { results := [.lit (.bool true)], args := [d1, d2, d3, d4, d5] }
  | _ => none }
def itemDecodesRow : OpenClaim := { program := "ytfapckmobeppnaa", sum := "b13c7d9e86da8a3ee8977d15e351431987609f51b8496bf41e04013152e3d826", func := "telemeter/telemeterlaw03.ItemDecodes", spec := "itemDecodes", unfollowed := true, recurses := true, apart := false }
def ItemDecodesSaid : Prop := itemDecodesRow.holds Try.pinned (OpenSpec.ofChange itemDecodesSpec)

/-- ITS FALSE NEIGHBOUR: 'it returns false'. Refute it at one input. -/
def itemDecodesWrong : ChangeSpec := { name := "itemDecodes", fn := fun _ => fun
  | [d1, d2, d3, d4, d5] => { results := [.lit (.bool false)], args := [d1, d2, d3, d4, d5] }
  | _ => none }
def ItemDecodesWrongFalsely : Prop := itemDecodesRow.holds Try.pinned (OpenSpec.ofChange itemDecodesWrong)

/-- 'telemeterlaw03.ItemBack': WHATEVER THE INPUT: true; the input reads as it did. -/
def itemBackSpec : ChangeSpec := { name := "itemBack", fn := fun _ => fun
  | [d1, d2] => { results := [.lit (.bool true)], args := [d1, d2] }
  | _ => none }
def itemBackRow : OpenClaim := { program := "ytfapckmobeppnaa", sum := "b13c7d9e86da8a3ee8977d15e351431987609f51b8496bf41e04013152e3d826", func := "telemeter/telemeterlaw03.ItemBack", spec := "itemBack", unfollowed := true, recurses := true, apart := false }
def ItemBackSaid : Prop := itemBackRow.holds Try.pinned (OpenSpec.ofChange itemBackSpec)

/-- ITS FALSE NEIGHBOUR: 'it returns false'. Refute it at one input. -/
def itemBackWrong : ChangeSpec := { name := "itemBack", fn := fun _ => fun
  | [d1, d2] => { results := [.lit (.bool false)], args := [d1, d2] }
  | _ => none }
def ItemBackWrongFalsely : Prop := itemBackRow.holds Try.pinned (OpenSpec.ofChange itemBackWrong)

/-- 'telemeterlaw03.ItemOne': WHATEVER THE INPUT: true; the input reads as it did. -/
def itemOneSpec : ChangeSpec := { name := "itemOne", fn := fun _ => fun
  | [d1, d2, d3, d4] => { results := [.lit (.bool true)], args := [d1, d2, d3, d4] }
  | _ => none }
def itemOneRow : OpenClaim := { program := "ytfapckmobeppnaa", sum := "b13c7d9e86da8a3ee8977d15e351431987609f51b8496bf41e04013152e3d826", func := "telemeter/telemeterlaw03.ItemOne", spec := "itemOne", unfollowed := true, recurses := true, apart := false }
def ItemOneSaid : Prop := itemOneRow.holds Try.pinned (OpenSpec.ofChange itemOneSpec)

/-- ITS FALSE NEIGHBOUR: 'it returns false'. Refute it at one input. -/
def itemOneWrong : ChangeSpec := { name := "itemOne", fn := fun _ => fun
  | [d1, d2, d3, d4] => { results := [.lit (.bool false)], args := [d1, d2, d3, d4] }
  | _ => none }
def ItemOneWrongFalsely : Prop := itemOneRow.holds Try.pinned (OpenSpec.ofChange itemOneWrong)

/-- 'telemeterlaw03.ItemKinds': WHATEVER THE INPUT: true; the input reads as it did. -/
def itemKindsSpec : ChangeSpec := { name := "itemKinds", fn := fun _ => fun
  | [d1, d2, d3] => { results := [.lit (.bool true)], args := [d1, d2, d3] }
  | _ => none }
def itemKindsRow : OpenClaim := { program := "ytfapckmobeppnaa", sum := "b13c7d9e86da8a3ee8977d15e351431987609f51b8496bf41e04013152e3d826", func := "telemeter/telemeterlaw03.ItemKinds", spec := "itemKinds", unfollowed := true, recurses := true, apart := false }
def ItemKindsSaid : Prop := itemKindsRow.holds Try.pinned (OpenSpec.ofChange itemKindsSpec)

/-- ITS FALSE NEIGHBOUR: 'it returns false'. Refute it at one input. -/
def itemKindsWrong : ChangeSpec := { name := "itemKinds", fn := fun _ => fun
  | [d1, d2, d3] => { results := [.lit (.bool false)], args := [d1, d2, d3] }
  | _ => none }
def ItemKindsWrongFalsely : Prop := itemKindsRow.holds Try.pinned (OpenSpec.ofChange itemKindsWrong)

/- THE SECOND FORM. 'bulk': how many values and letters a reading holds, each counted each time it is reached (what is shared counts as often as it is met; a slice's spare places count too). A statement '..UptoSaid' is the law's where the arguments, and the package variables that the reading takes, are together of bulk at most 1048576: NARROWER than '..Said'. Prove '..Said' where nothing that the law and all that it calls make is longer than what came in: it says more and counts as full. Else prove '..UptoSaid'. A law counts once. -/
mutual
def uptoBulk {H : Type} : DataW H → Nat
  | .lit (.string bytes) => bytes.length + 1
  | .lit _ => 1
  | .nil => 1
  | .ptr d => uptoBulk d + 1
  | .slice elems spare => uptoBulkAll elems + uptoBulkAll spare + 1
  | .agg parts => uptoBulkAll parts + 1
  | .iface _ d => uptoBulk d + 1
  | .map entries => uptoBulkEntries entries + 1
  | .held _ => 1
def uptoBulkAll {H : Type} : List (DataW H) → Nat
  | [] => 0
  | d :: r => uptoBulk d + uptoBulkAll r
def uptoBulkEntries {H : Type} : List (Lit × DataW H) → Nat
  | [] => 0
  | x :: r => uptoBulkEntry x + uptoBulkEntries r
def uptoBulkEntry {H : Type} : Lit × DataW H → Nat
  | (.string bytes, d) => bytes.length + uptoBulk d + 1
  | (_, d) => uptoBulk d + 1
 end
def uptoSmall : (H : Type) → List (DataW H) → Bool := fun _ ds => decide (uptoBulkAll ds ≤ 1048576)
def OpenSpec.upto (s : _root_.Go.ChangeSpec) : _root_.Go.OpenSpec := { _root_.Go.OpenSpec.ofChange s with cond := some uptoSmall }

/-- 'telemeterlaw03.ItemBounds', WHERE WHAT IT READS IS OF BULK AT MOST 1048576: true; the input reads as it did. -/
def itemBoundsUptoRow : OpenClaim := { program := "ytfapckmobeppnaa", sum := "b13c7d9e86da8a3ee8977d15e351431987609f51b8496bf41e04013152e3d826", func := "telemeter/telemeterlaw03.ItemBounds", spec := "itemBounds", unfollowed := true, recurses := true, apart := false, narrowed := true }
def ItemBoundsUptoSaid : Prop := itemBoundsUptoRow.holds Try.pinned (OpenSpec.upto itemBoundsSpec)

/-- 'telemeterlaw03.ItemAttrs', WHERE WHAT IT READS IS OF BULK AT MOST 1048576: true; the input reads as it did. -/
def itemAttrsUptoRow : OpenClaim := { program := "ytfapckmobeppnaa", sum := "b13c7d9e86da8a3ee8977d15e351431987609f51b8496bf41e04013152e3d826", func := "telemeter/telemeterlaw03.ItemAttrs", spec := "itemAttrs", unfollowed := true, recurses := true, apart := false, narrowed := true }
def ItemAttrsUptoSaid : Prop := itemAttrsUptoRow.holds Try.pinned (OpenSpec.upto itemAttrsSpec)

/-- 'telemeterlaw03.ItemEncodes', WHERE WHAT IT READS IS OF BULK AT MOST 1048576: true; the input reads as it did. -/
def itemEncodesUptoRow : OpenClaim := { program := "ytfapckmobeppnaa", sum := "b13c7d9e86da8a3ee8977d15e351431987609f51b8496bf41e04013152e3d826", func := "telemeter/telemeterlaw03.ItemEncodes", spec := "itemEncodes", unfollowed := true, recurses := true, apart := false, narrowed := true }
def ItemEncodesUptoSaid : Prop := itemEncodesUptoRow.holds Try.pinned (OpenSpec.upto itemEncodesSpec)

/-- 'telemeterlaw03.ItemDecodes', WHERE WHAT IT READS IS OF BULK AT MOST 1048576: true; the input reads as it did. -/
def itemDecodesUptoRow : OpenClaim := { program := "ytfapckmobeppnaa", sum := "b13c7d9e86da8a3ee8977d15e351431987609f51b8496bf41e04013152e3d826", func := "telemeter/telemeterlaw03.ItemDecodes", spec := "itemDecodes", unfollowed := true, recurses := true, apart := false, narrowed := true }
def ItemDecodesUptoSaid : Prop := itemDecodesUptoRow.holds Try.pinned (OpenSpec.upto itemDecodesSpec)

/-- 'telemeterlaw03.ItemBack', WHERE WHAT IT READS IS OF BULK AT MOST 1048576: true; the input reads as it did. -/
def itemBackUptoRow : OpenClaim := { program := "ytfapckmobeppnaa", sum := "b13c7d9e86da8a3ee8977d15e351431987609f51b8496bf41e04013152e3d826", func := "telemeter/telemeterlaw03.ItemBack", spec := "itemBack", unfollowed := true, recurses := true, apart := false, narrowed := true }
def ItemBackUptoSaid : Prop := itemBackUptoRow.holds Try.pinned (OpenSpec.upto itemBackSpec)

/-- 'telemeterlaw03.ItemOne', WHERE WHAT IT READS IS OF BULK AT MOST 1048576: true; the input reads as it did. -/
def itemOneUptoRow : OpenClaim := { program := "ytfapckmobeppnaa", sum := "b13c7d9e86da8a3ee8977d15e351431987609f51b8496bf41e04013152e3d826", func := "telemeter/telemeterlaw03.ItemOne", spec := "itemOne", unfollowed := true, recurses := true, apart := false, narrowed := true }
def ItemOneUptoSaid : Prop := itemOneUptoRow.holds Try.pinned (OpenSpec.upto itemOneSpec)

/-- 'telemeterlaw03.ItemKinds', WHERE WHAT IT READS IS OF BULK AT MOST 1048576: true; the input reads as it did. -/
def itemKindsUptoRow : OpenClaim := { program := "ytfapckmobeppnaa", sum := "b13c7d9e86da8a3ee8977d15e351431987609f51b8496bf41e04013152e3d826", func := "telemeter/telemeterlaw03.ItemKinds", spec := "itemKinds", unfollowed := true, recurses := true, apart := false, narrowed := true }
def ItemKindsUptoSaid : Prop := itemKindsUptoRow.holds Try.pinned (OpenSpec.upto itemKindsSpec)

end Rows
end Go.Proofs.Ytfapckmobeppnaa
