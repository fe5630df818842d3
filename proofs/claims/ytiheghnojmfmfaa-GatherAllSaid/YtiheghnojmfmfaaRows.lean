/-
  No cell of these rows narrows 'for every input' (looked for: loops, veiled, ifaces, maps, wideKeys, modest, calm, conditions, laid).
  DERIVED. THE GIVEN ROWS OF THIS SEAT. 11 by the template 'for every input the law returns true; each argument reads behind the call as it read before'; 0 by the template 'total and deterministic' (their statements: YtiheghnojmfmfaaTotals.lean).
  GIVEN WITH THE SEED: the statements are not yours to turn. If you find one false, say at which input.
  Laid BY PROGRAM, IN A SANDBOX (cutbox-rows.mjs): the forced cells as the released guide's own fill.sh prints them over the translation 0b020b5c7b5bd7e0… (all of the seat's roots in one cut). By AI agents, Wed Nov 11 2026. No macro, syntax, notation, axiom, sorry.
-/
import Derived.Test.YtiheghnojmfmfaaChecked
import GoSem.Claim
import GoSem.ClaimJoined
import GoSem.ClaimMapViews
import Derived.JoinedTies
import Derived.KernelRfl
namespace Go.Proofs.Ytiheghnojmfmfaa
/- THE CELL 'sum', in the pinned program and in every row, IS THE sha256 OF THE DUMP (.gsa) THAT YtiheghnojmfmfaaProg.lean LOADS. Nothing in Lean hashes anything: it is a label: what it is worth is what the hold of that sum in a sandbox is worth. -/
noncomputable def Try.pinned : Pinned := { name := "ytiheghnojmfmfaa", sum := "0b020b5c7b5bd7e02a68fc8d7ce847b0f540b8a3bcf23927f7f9d8ded6c2399b", checked := Try.checked }
namespace Rows
def none {H : Type} : Left H := { results := [], args := [] }

/-- 'telemeterlaw16.GatherSplits': WHATEVER THE INPUT: true; the input reads as it did. -/
def gatherSplitsSpec : ChangeSpec := { name := "gatherSplits", fn := fun _ => fun
  | [d1, d2, d3, d4, d5] => { results := [.lit (.bool true)], args := [d1, d2, d3, d4, d5] }
  | _ => none }
def gatherSplitsRow : OpenClaim := { program := "ytiheghnojmfmfaa", sum := "0b020b5c7b5bd7e02a68fc8d7ce847b0f540b8a3bcf23927f7f9d8ded6c2399b", func := "telemeter/telemeterlaw16.GatherSplits", spec := "gatherSplits", unfollowed := true, recurses := true, apart := false }
def GatherSplitsSaid : Prop := gatherSplitsRow.holds Try.pinned (OpenSpec.ofChange gatherSplitsSpec)

/-- ITS FALSE NEIGHBOUR: 'it returns false'. Refute it at one input. -/
def gatherSplitsWrong : ChangeSpec := { name := "gatherSplits", fn := fun _ => fun
  | [d1, d2, d3, d4, d5] => { results := [.lit (.bool false)], args := [d1, d2, d3, d4, d5] }
  | _ => none }
def GatherSplitsWrongFalsely : Prop := gatherSplitsRow.holds Try.pinned (OpenSpec.ofChange gatherSplitsWrong)

/-- 'telemeterlaw16.GatherFull': WHATEVER THE INPUT: true; the input reads as it did. -/
def gatherFullSpec : ChangeSpec := { name := "gatherFull", fn := fun _ => fun
  | [d1, d2] => { results := [.lit (.bool true)], args := [d1, d2] }
  | _ => none }
def gatherFullRow : OpenClaim := { program := "ytiheghnojmfmfaa", sum := "0b020b5c7b5bd7e02a68fc8d7ce847b0f540b8a3bcf23927f7f9d8ded6c2399b", func := "telemeter/telemeterlaw16.GatherFull", spec := "gatherFull", unfollowed := true, recurses := true, apart := false }
def GatherFullSaid : Prop := gatherFullRow.holds Try.pinned (OpenSpec.ofChange gatherFullSpec)

/-- ITS FALSE NEIGHBOUR: 'it returns false'. Refute it at one input. -/
def gatherFullWrong : ChangeSpec := { name := "gatherFull", fn := fun _ => fun
  | [d1, d2] => { results := [.lit (.bool false)], args := [d1, d2] }
  | _ => none }
def GatherFullWrongFalsely : Prop := gatherFullRow.holds Try.pinned (OpenSpec.ofChange gatherFullWrong)

/-- 'telemeterlaw16.GatherAll': WHATEVER THE INPUT: true; the input reads as it did. -/
def gatherAllSpec : ChangeSpec := { name := "gatherAll", fn := fun _ => fun
  | [d1, d2] => { results := [.lit (.bool true)], args := [d1, d2] }
  | _ => none }
def gatherAllRow : OpenClaim := { program := "ytiheghnojmfmfaa", sum := "0b020b5c7b5bd7e02a68fc8d7ce847b0f540b8a3bcf23927f7f9d8ded6c2399b", func := "telemeter/telemeterlaw16.GatherAll", spec := "gatherAll", unfollowed := true, recurses := true, apart := false }
def GatherAllSaid : Prop := gatherAllRow.holds Try.pinned (OpenSpec.ofChange gatherAllSpec)

/-- ITS FALSE NEIGHBOUR: 'it returns false'. Refute it at one input. -/
def gatherAllWrong : ChangeSpec := { name := "gatherAll", fn := fun _ => fun
  | [d1, d2] => { results := [.lit (.bool false)], args := [d1, d2] }
  | _ => none }
def GatherAllWrongFalsely : Prop := gatherAllRow.holds Try.pinned (OpenSpec.ofChange gatherAllWrong)

/-- 'telemeterlaw16.GatherWaits': WHATEVER THE INPUT: true; the input reads as it did. -/
def gatherWaitsSpec : ChangeSpec := { name := "gatherWaits", fn := fun _ => fun
  | [d1, d2, d3] => { results := [.lit (.bool true)], args := [d1, d2, d3] }
  | _ => none }
def gatherWaitsRow : OpenClaim := { program := "ytiheghnojmfmfaa", sum := "0b020b5c7b5bd7e02a68fc8d7ce847b0f540b8a3bcf23927f7f9d8ded6c2399b", func := "telemeter/telemeterlaw16.GatherWaits", spec := "gatherWaits", unfollowed := true, recurses := true, apart := false }
def GatherWaitsSaid : Prop := gatherWaitsRow.holds Try.pinned (OpenSpec.ofChange gatherWaitsSpec)

/-- ITS FALSE NEIGHBOUR: 'it returns false'. Refute it at one input. -/
def gatherWaitsWrong : ChangeSpec := { name := "gatherWaits", fn := fun _ => fun
  | [d1, d2, d3] => { results := [.lit (.bool false)], args := [d1, d2, d3] }
  | _ => none }
def GatherWaitsWrongFalsely : Prop := gatherWaitsRow.holds Try.pinned (OpenSpec.ofChange gatherWaitsWrong)

/-- 'telemeterlaw02.FrameLong': WHATEVER THE INPUT: true; the input reads as it did. -/
def frameLongSpec : ChangeSpec := { name := "frameLong", fn := fun _ => fun
  | [d1, d2] => { results := [.lit (.bool true)], args := [d1, d2] }
  | _ => none }
def frameLongRow : OpenClaim := { program := "ytiheghnojmfmfaa", sum := "0b020b5c7b5bd7e02a68fc8d7ce847b0f540b8a3bcf23927f7f9d8ded6c2399b", func := "telemeter/telemeterlaw02.FrameLong", spec := "frameLong", unfollowed := true, recurses := true, apart := false }
def FrameLongSaid : Prop := frameLongRow.holds Try.pinned (OpenSpec.ofChange frameLongSpec)

/-- ITS FALSE NEIGHBOUR: 'it returns false'. Refute it at one input. -/
def frameLongWrong : ChangeSpec := { name := "frameLong", fn := fun _ => fun
  | [d1, d2] => { results := [.lit (.bool false)], args := [d1, d2] }
  | _ => none }
def FrameLongWrongFalsely : Prop := frameLongRow.holds Try.pinned (OpenSpec.ofChange frameLongWrong)

/-- 'telemeterlaw02.FrameSums': WHATEVER THE INPUT: true; the input reads as it did. -/
def frameSumsSpec : ChangeSpec := { name := "frameSums", fn := fun _ => fun
  | [d1, d2] => { results := [.lit (.bool true)], args := [d1, d2] }
  | _ => none }
def frameSumsRow : OpenClaim := { program := "ytiheghnojmfmfaa", sum := "0b020b5c7b5bd7e02a68fc8d7ce847b0f540b8a3bcf23927f7f9d8ded6c2399b", func := "telemeter/telemeterlaw02.FrameSums", spec := "frameSums", unfollowed := true, recurses := true, apart := false }
def FrameSumsSaid : Prop := frameSumsRow.holds Try.pinned (OpenSpec.ofChange frameSumsSpec)

/-- ITS FALSE NEIGHBOUR: 'it returns false'. Refute it at one input. -/
def frameSumsWrong : ChangeSpec := { name := "frameSums", fn := fun _ => fun
  | [d1, d2] => { results := [.lit (.bool false)], args := [d1, d2] }
  | _ => none }
def FrameSumsWrongFalsely : Prop := frameSumsRow.holds Try.pinned (OpenSpec.ofChange frameSumsWrong)

/-- 'telemeterlaw02.FrameBends': WHATEVER THE INPUT: true; the input reads as it did. -/
def frameBendsSpec : ChangeSpec := { name := "frameBends", fn := fun _ => fun
  | [d1, d2, d3] => { results := [.lit (.bool true)], args := [d1, d2, d3] }
  | _ => none }
def frameBendsRow : OpenClaim := { program := "ytiheghnojmfmfaa", sum := "0b020b5c7b5bd7e02a68fc8d7ce847b0f540b8a3bcf23927f7f9d8ded6c2399b", func := "telemeter/telemeterlaw02.FrameBends", spec := "frameBends", unfollowed := true, recurses := true, apart := false }
def FrameBendsSaid : Prop := frameBendsRow.holds Try.pinned (OpenSpec.ofChange frameBendsSpec)

/-- ITS FALSE NEIGHBOUR: 'it returns false'. Refute it at one input. -/
def frameBendsWrong : ChangeSpec := { name := "frameBends", fn := fun _ => fun
  | [d1, d2, d3] => { results := [.lit (.bool false)], args := [d1, d2, d3] }
  | _ => none }
def FrameBendsWrongFalsely : Prop := frameBendsRow.holds Try.pinned (OpenSpec.ofChange frameBendsWrong)

/-- 'telemeterlaw02.FrameOwn': WHATEVER THE INPUT: true; the input reads as it did. -/
def frameOwnSpec : ChangeSpec := { name := "frameOwn", fn := fun _ => fun
  | [d] => { results := [.lit (.bool true)], args := [d] }
  | _ => none }
def frameOwnRow : OpenClaim := { program := "ytiheghnojmfmfaa", sum := "0b020b5c7b5bd7e02a68fc8d7ce847b0f540b8a3bcf23927f7f9d8ded6c2399b", func := "telemeter/telemeterlaw02.FrameOwn", spec := "frameOwn", unfollowed := true, recurses := true, apart := false }
def FrameOwnSaid : Prop := frameOwnRow.holds Try.pinned (OpenSpec.ofChange frameOwnSpec)

/-- ITS FALSE NEIGHBOUR: 'it returns false'. Refute it at one input. -/
def frameOwnWrong : ChangeSpec := { name := "frameOwn", fn := fun _ => fun
  | [d] => { results := [.lit (.bool false)], args := [d] }
  | _ => none }
def FrameOwnWrongFalsely : Prop := frameOwnRow.holds Try.pinned (OpenSpec.ofChange frameOwnWrong)

/-- 'telemeterlaw02.FrameStops': WHATEVER THE INPUT: true; the input reads as it did. -/
def frameStopsSpec : ChangeSpec := { name := "frameStops", fn := fun _ => fun
  | [d1, d2, d3, d4] => { results := [.lit (.bool true)], args := [d1, d2, d3, d4] }
  | _ => none }
def frameStopsRow : OpenClaim := { program := "ytiheghnojmfmfaa", sum := "0b020b5c7b5bd7e02a68fc8d7ce847b0f540b8a3bcf23927f7f9d8ded6c2399b", func := "telemeter/telemeterlaw02.FrameStops", spec := "frameStops", unfollowed := true, recurses := true, apart := false }
def FrameStopsSaid : Prop := frameStopsRow.holds Try.pinned (OpenSpec.ofChange frameStopsSpec)

/-- ITS FALSE NEIGHBOUR: 'it returns false'. Refute it at one input. -/
def frameStopsWrong : ChangeSpec := { name := "frameStops", fn := fun _ => fun
  | [d1, d2, d3, d4] => { results := [.lit (.bool false)], args := [d1, d2, d3, d4] }
  | _ => none }
def FrameStopsWrongFalsely : Prop := frameStopsRow.holds Try.pinned (OpenSpec.ofChange frameStopsWrong)

/-- 'telemeterlaw02.FrameTakes': WHATEVER THE INPUT: true; the input reads as it did. -/
def frameTakesSpec : ChangeSpec := { name := "frameTakes", fn := fun _ => fun
  | [d1, d2, d3, d4, d5, d6] => { results := [.lit (.bool true)], args := [d1, d2, d3, d4, d5, d6] }
  | _ => none }
def frameTakesRow : OpenClaim := { program := "ytiheghnojmfmfaa", sum := "0b020b5c7b5bd7e02a68fc8d7ce847b0f540b8a3bcf23927f7f9d8ded6c2399b", func := "telemeter/telemeterlaw02.FrameTakes", spec := "frameTakes", unfollowed := true, recurses := true, apart := false }
def FrameTakesSaid : Prop := frameTakesRow.holds Try.pinned (OpenSpec.ofChange frameTakesSpec)

/-- ITS FALSE NEIGHBOUR: 'it returns false'. Refute it at one input. -/
def frameTakesWrong : ChangeSpec := { name := "frameTakes", fn := fun _ => fun
  | [d1, d2, d3, d4, d5, d6] => { results := [.lit (.bool false)], args := [d1, d2, d3, d4, d5, d6] }
  | _ => none }
def FrameTakesWrongFalsely : Prop := frameTakesRow.holds Try.pinned (OpenSpec.ofChange frameTakesWrong)

/-- 'telemeterlaw02.FrameBack': WHATEVER THE INPUT: true; the input reads as it did. -/
def frameBackSpec : ChangeSpec := { name := "frameBack", fn := fun _ => fun
  | [d1, d2] => { results := [.lit (.bool true)], args := [d1, d2] }
  | _ => none }
def frameBackRow : OpenClaim := { program := "ytiheghnojmfmfaa", sum := "0b020b5c7b5bd7e02a68fc8d7ce847b0f540b8a3bcf23927f7f9d8ded6c2399b", func := "telemeter/telemeterlaw02.FrameBack", spec := "frameBack", unfollowed := true, recurses := true, apart := false }
def FrameBackSaid : Prop := frameBackRow.holds Try.pinned (OpenSpec.ofChange frameBackSpec)

/-- ITS FALSE NEIGHBOUR: 'it returns false'. Refute it at one input. -/
def frameBackWrong : ChangeSpec := { name := "frameBack", fn := fun _ => fun
  | [d1, d2] => { results := [.lit (.bool false)], args := [d1, d2] }
  | _ => none }
def FrameBackWrongFalsely : Prop := frameBackRow.holds Try.pinned (OpenSpec.ofChange frameBackWrong)

/- THE SECOND FORM. 'bulk': how many values and letters a reading holds, each counted each time it is reached (what is shared counts as often as it is met; a slice's spare places count too). A statement '..UptoSaid' is the law's where the arguments, and the package variables that the reading takes, are together of bulk at most 1048576: NARROWER than '..Said'. Prove '..Said' where nothing that the law and all that it calls make is longer than what came in: it says more and counts as full. Else prove '..UptoSaid'. A law counts once. -/
mutual
def uptoBulk {H : Type} : DataW H → Nat
  | .lit (.string bytes) => bytes.length + 1
  | .lit _ => 1
  | .nil => 1
  | .ptr d => uptoBulk d + 1
  | .slice elems spare => uptoBulkAll elems + uptoBulkAll spare + 1
  | .agg parts => uptoBulkAll parts + 1
  | .iface _ d => uptoBulk d + 1
  | .map entries => uptoBulkEntries entries + 1
  | .held _ => 1
def uptoBulkAll {H : Type} : List (DataW H) → Nat
  | [] => 0
  | d :: r => uptoBulk d + uptoBulkAll r
def uptoBulkEntries {H : Type} : List (Lit × DataW H) → Nat
  | [] => 0
  | x :: r => uptoBulkEntry x + uptoBulkEntries r
def uptoBulkEntry {H : Type} : Lit × DataW H → Nat
  | (.string bytes, d) => bytes.length + uptoBulk d + 1
  | (_, d) => uptoBulk d + 1
 end
def uptoSmall : (H : Type) → List (DataW H) → Bool := fun _ ds => decide (uptoBulkAll ds ≤ 1048576)
def OpenSpec.upto (s : _root_.Go.ChangeSpec) : _root_.Go.OpenSpec := { _root_.Go.OpenSpec.ofChange s with cond := some uptoSmall }

/-- 'telemeterlaw16.GatherSplits', WHERE WHAT IT READS IS OF BULK AT MOST 1048576: true; the input reads as it did. -/
def gatherSplitsUptoRow : OpenClaim := { program := "ytiheghnojmfmfaa", sum := "0b020b5c7b5bd7e02a68fc8d7ce847b0f540b8a3bcf23927f7f9d8ded6c2399b", func := "telemeter/telemeterlaw16.GatherSplits", spec := "gatherSplits", unfollowed := true, recurses := true, apart := false, narrowed := true }
def GatherSplitsUptoSaid : Prop := gatherSplitsUptoRow.holds Try.pinned (OpenSpec.upto gatherSplitsSpec)

/-- 'telemeterlaw16.GatherFull', WHERE WHAT IT READS IS OF BULK AT MOST 1048576: true; the input reads as it did. -/
def gatherFullUptoRow : OpenClaim := { program := "ytiheghnojmfmfaa", sum := "0b020b5c7b5bd7e02a68fc8d7ce847b0f540b8a3bcf23927f7f9d8ded6c2399b", func := "telemeter/telemeterlaw16.GatherFull", spec := "gatherFull", unfollowed := true, recurses := true, apart := false, narrowed := true }
def GatherFullUptoSaid : Prop := gatherFullUptoRow.holds Try.pinned (OpenSpec.upto gatherFullSpec)

/-- 'telemeterlaw16.GatherAll', WHERE WHAT IT READS IS OF BULK AT MOST 1048576: true; the input reads as it did. -/
def gatherAllUptoRow : OpenClaim := { program := "ytiheghnojmfmfaa", sum := "0b020b5c7b5bd7e02a68fc8d7ce847b0f540b8a3bcf23927f7f9d8ded6c2399b", func := "telemeter/telemeterlaw16.GatherAll", spec := "gatherAll", unfollowed := true, recurses := true, apart := false, narrowed := true }
def GatherAllUptoSaid : Prop := gatherAllUptoRow.holds Try.pinned (OpenSpec.upto gatherAllSpec)

/-- 'telemeterlaw16.GatherWaits', WHERE WHAT IT READS IS OF BULK AT MOST 1048576: true; the input reads as it did. -/
def gatherWaitsUptoRow : OpenClaim := { program := "ytiheghnojmfmfaa", sum := "0b020b5c7b5bd7e02a68fc8d7ce847b0f540b8a3bcf23927f7f9d8ded6c2399b", func := "telemeter/telemeterlaw16.GatherWaits", spec := "gatherWaits", unfollowed := true, recurses := true, apart := false, narrowed := true }
def GatherWaitsUptoSaid : Prop := gatherWaitsUptoRow.holds Try.pinned (OpenSpec.upto gatherWaitsSpec)

/-- 'telemeterlaw02.FrameLong', WHERE WHAT IT READS IS OF BULK AT MOST 1048576: true; the input reads as it did. -/
def frameLongUptoRow : OpenClaim := { program := "ytiheghnojmfmfaa", sum := "0b020b5c7b5bd7e02a68fc8d7ce847b0f540b8a3bcf23927f7f9d8ded6c2399b", func := "telemeter/telemeterlaw02.FrameLong", spec := "frameLong", unfollowed := true, recurses := true, apart := false, narrowed := true }
def FrameLongUptoSaid : Prop := frameLongUptoRow.holds Try.pinned (OpenSpec.upto frameLongSpec)

/-- 'telemeterlaw02.FrameSums', WHERE WHAT IT READS IS OF BULK AT MOST 1048576: true; the input reads as it did. -/
def frameSumsUptoRow : OpenClaim := { program := "ytiheghnojmfmfaa", sum := "0b020b5c7b5bd7e02a68fc8d7ce847b0f540b8a3bcf23927f7f9d8ded6c2399b", func := "telemeter/telemeterlaw02.FrameSums", spec := "frameSums", unfollowed := true, recurses := true, apart := false, narrowed := true }
def FrameSumsUptoSaid : Prop := frameSumsUptoRow.holds Try.pinned (OpenSpec.upto frameSumsSpec)

/-- 'telemeterlaw02.FrameBends', WHERE WHAT IT READS IS OF BULK AT MOST 1048576: true; the input reads as it did. -/
def frameBendsUptoRow : OpenClaim := { program := "ytiheghnojmfmfaa", sum := "0b020b5c7b5bd7e02a68fc8d7ce847b0f540b8a3bcf23927f7f9d8ded6c2399b", func := "telemeter/telemeterlaw02.FrameBends", spec := "frameBends", unfollowed := true, recurses := true, apart := false, narrowed := true }
def FrameBendsUptoSaid : Prop := frameBendsUptoRow.holds Try.pinned (OpenSpec.upto frameBendsSpec)

/-- 'telemeterlaw02.FrameOwn', WHERE WHAT IT READS IS OF BULK AT MOST 1048576: true; the input reads as it did. -/
def frameOwnUptoRow : OpenClaim := { program := "ytiheghnojmfmfaa", sum := "0b020b5c7b5bd7e02a68fc8d7ce847b0f540b8a3bcf23927f7f9d8ded6c2399b", func := "telemeter/telemeterlaw02.FrameOwn", spec := "frameOwn", unfollowed := true, recurses := true, apart := false, narrowed := true }
def FrameOwnUptoSaid : Prop := frameOwnUptoRow.holds Try.pinned (OpenSpec.upto frameOwnSpec)

/-- 'telemeterlaw02.FrameStops', WHERE WHAT IT READS IS OF BULK AT MOST 1048576: true; the input reads as it did. -/
def frameStopsUptoRow : OpenClaim := { program := "ytiheghnojmfmfaa", sum := "0b020b5c7b5bd7e02a68fc8d7ce847b0f540b8a3bcf23927f7f9d8ded6c2399b", func := "telemeter/telemeterlaw02.FrameStops", spec := "frameStops", unfollowed := true, recurses := true, apart := false, narrowed := true }
def FrameStopsUptoSaid : Prop := frameStopsUptoRow.holds Try.pinned (OpenSpec.upto frameStopsSpec)

/-- 'telemeterlaw02.FrameTakes', WHERE WHAT IT READS IS OF BULK AT MOST 1048576: true; the input reads as it did. -/
def frameTakesUptoRow : OpenClaim := { program := "ytiheghnojmfmfaa", sum := "0b020b5c7b5bd7e02a68fc8d7ce847b0f540b8a3bcf23927f7f9d8ded6c2399b", func := "telemeter/telemeterlaw02.FrameTakes", spec := "frameTakes", unfollowed := true, recurses := true, apart := false, narrowed := true }
def FrameTakesUptoSaid : Prop := frameTakesUptoRow.holds Try.pinned (OpenSpec.upto frameTakesSpec)

/-- 'telemeterlaw02.FrameBack', WHERE WHAT IT READS IS OF BULK AT MOST 1048576: true; the input reads as it did. -/
def frameBackUptoRow : OpenClaim := { program := "ytiheghnojmfmfaa", sum := "0b020b5c7b5bd7e02a68fc8d7ce847b0f540b8a3bcf23927f7f9d8ded6c2399b", func := "telemeter/telemeterlaw02.FrameBack", spec := "frameBack", unfollowed := true, recurses := true, apart := false, narrowed := true }
def FrameBackUptoSaid : Prop := frameBackUptoRow.holds Try.pinned (OpenSpec.upto frameBackSpec)

end Rows
end Go.Proofs.Ytiheghnojmfmfaa
