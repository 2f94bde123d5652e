/-
  No cell of these rows narrows 'for every input' (looked for: loops, veiled, ifaces, maps, wideKeys, modest, calm, conditions, laid).
  DERIVED. THE GIVEN ROWS OF THIS SEAT. 6 by the template 'for every input the law returns true; each argument reads behind the call as it read before'; 0 by the template 'total and deterministic' (their statements: YtcjcbcmapjcfnaaTotals.lean).
  GIVEN WITH THE SEED: the statements are not yours to turn. If you find one false, say at which input.
  Laid BY PROGRAM, IN A SANDBOX (cutbox-rows.mjs): the forced cells as the released guide's own fill.sh prints them over the translation b6b92f766d636e68… (all of the seat's roots in one cut). By AI agents, Wed Nov 11 2026. No macro, syntax, notation, axiom, sorry.
-/
import Derived.Test.YtcjcbcmapjcfnaaChecked
import GoSem.Claim
import GoSem.ClaimJoined
import GoSem.ClaimMapViews
import Derived.JoinedTies
import Derived.KernelRfl
namespace Go.Proofs.Ytcjcbcmapjcfnaa
/- THE CELL 'sum', in the pinned program and in every row, IS THE sha256 OF THE DUMP (.gsa) THAT YtcjcbcmapjcfnaaProg.lean LOADS. Nothing in Lean hashes anything: it is a label: what it is worth is what the hold of that sum in a sandbox is worth. -/
noncomputable def Try.pinned : Pinned := { name := "ytcjcbcmapjcfnaa", sum := "b6b92f766d636e685e2a2539668fe36aeb7edaf809f730c08d5ec0152004e91d", checked := Try.checked }
namespace Rows
def none {H : Type} : Left H := { results := [], args := [] }

/-- 'impostlaw05.EventTells': WHATEVER THE INPUT: true; the input reads as it did. -/
def eventTellsSpec : ChangeSpec := { name := "eventTells", fn := fun _ => fun
  | [d1, d2] => { results := [.lit (.bool true)], args := [d1, d2] }
  | _ => none }
def eventTellsRow : OpenClaim := { program := "ytcjcbcmapjcfnaa", sum := "b6b92f766d636e685e2a2539668fe36aeb7edaf809f730c08d5ec0152004e91d", func := "impost/impostlaw05.EventTells", spec := "eventTells", inPlace := ["slices.overlaps[impost/api.KV]"], unfollowed := true, recurses := true, apart := false }
def EventTellsSaid : Prop := eventTellsRow.holds Try.pinned (OpenSpec.ofChange eventTellsSpec)

/-- ITS FALSE NEIGHBOUR: 'it returns false'. Refute it at one input. -/
def eventTellsWrong : ChangeSpec := { name := "eventTells", fn := fun _ => fun
  | [d1, d2] => { results := [.lit (.bool false)], args := [d1, d2] }
  | _ => none }
def EventTellsWrongFalsely : Prop := eventTellsRow.holds Try.pinned (OpenSpec.ofChange eventTellsWrong)

/-- 'impostlaw05.EventFolds': WHATEVER THE INPUT: true; the input reads as it did. -/
def eventFoldsSpec : ChangeSpec := { name := "eventFolds", fn := fun _ => fun
  | [d1, d2, d3] => { results := [.lit (.bool true)], args := [d1, d2, d3] }
  | _ => none }
def eventFoldsRow : OpenClaim := { program := "ytcjcbcmapjcfnaa", sum := "b6b92f766d636e685e2a2539668fe36aeb7edaf809f730c08d5ec0152004e91d", func := "impost/impostlaw05.EventFolds", spec := "eventFolds", inPlace := ["slices.overlaps[impost/api.KV]"], unfollowed := true, recurses := true, apart := false }
def EventFoldsSaid : Prop := eventFoldsRow.holds Try.pinned (OpenSpec.ofChange eventFoldsSpec)

/-- ITS FALSE NEIGHBOUR: 'it returns false'. Refute it at one input. -/
def eventFoldsWrong : ChangeSpec := { name := "eventFolds", fn := fun _ => fun
  | [d1, d2, d3] => { results := [.lit (.bool false)], args := [d1, d2, d3] }
  | _ => none }
def EventFoldsWrongFalsely : Prop := eventFoldsRow.holds Try.pinned (OpenSpec.ofChange eventFoldsWrong)

/-- 'impostlaw05.EventLast': WHATEVER THE INPUT: true; the input reads as it did. -/
def eventLastSpec : ChangeSpec := { name := "eventLast", fn := fun _ => fun
  | [d1, d2] => { results := [.lit (.bool true)], args := [d1, d2] }
  | _ => none }
def eventLastRow : OpenClaim := { program := "ytcjcbcmapjcfnaa", sum := "b6b92f766d636e685e2a2539668fe36aeb7edaf809f730c08d5ec0152004e91d", func := "impost/impostlaw05.EventLast", spec := "eventLast", inPlace := ["slices.overlaps[impost/api.KV]"], unfollowed := true, recurses := true, apart := false }
def EventLastSaid : Prop := eventLastRow.holds Try.pinned (OpenSpec.ofChange eventLastSpec)

/-- ITS FALSE NEIGHBOUR: 'it returns false'. Refute it at one input. -/
def eventLastWrong : ChangeSpec := { name := "eventLast", fn := fun _ => fun
  | [d1, d2] => { results := [.lit (.bool false)], args := [d1, d2] }
  | _ => none }
def EventLastWrongFalsely : Prop := eventLastRow.holds Try.pinned (OpenSpec.ofChange eventLastWrong)

/-- 'impostlaw05.EventRange': WHATEVER THE INPUT: true; the input reads as it did. -/
def eventRangeSpec : ChangeSpec := { name := "eventRange", fn := fun _ => fun
  | [d1, d2, d3] => { results := [.lit (.bool true)], args := [d1, d2, d3] }
  | _ => none }
def eventRangeRow : OpenClaim := { program := "ytcjcbcmapjcfnaa", sum := "b6b92f766d636e685e2a2539668fe36aeb7edaf809f730c08d5ec0152004e91d", func := "impost/impostlaw05.EventRange", spec := "eventRange", inPlace := ["slices.overlaps[impost/api.KV]"], unfollowed := true, recurses := true, apart := false }
def EventRangeSaid : Prop := eventRangeRow.holds Try.pinned (OpenSpec.ofChange eventRangeSpec)

/-- ITS FALSE NEIGHBOUR: 'it returns false'. Refute it at one input. -/
def eventRangeWrong : ChangeSpec := { name := "eventRange", fn := fun _ => fun
  | [d1, d2, d3] => { results := [.lit (.bool false)], args := [d1, d2, d3] }
  | _ => none }
def EventRangeWrongFalsely : Prop := eventRangeRow.holds Try.pinned (OpenSpec.ofChange eventRangeWrong)

/-- 'impostlaw05.EventJoins': WHATEVER THE INPUT: true; the input reads as it did. -/
def eventJoinsSpec : ChangeSpec := { name := "eventJoins", fn := fun _ => fun
  | [d1, d2, d3] => { results := [.lit (.bool true)], args := [d1, d2, d3] }
  | _ => none }
def eventJoinsRow : OpenClaim := { program := "ytcjcbcmapjcfnaa", sum := "b6b92f766d636e685e2a2539668fe36aeb7edaf809f730c08d5ec0152004e91d", func := "impost/impostlaw05.EventJoins", spec := "eventJoins", inPlace := ["slices.overlaps[impost/api.KV]"], unfollowed := true, recurses := true, apart := false }
def EventJoinsSaid : Prop := eventJoinsRow.holds Try.pinned (OpenSpec.ofChange eventJoinsSpec)

/-- ITS FALSE NEIGHBOUR: 'it returns false'. Refute it at one input. -/
def eventJoinsWrong : ChangeSpec := { name := "eventJoins", fn := fun _ => fun
  | [d1, d2, d3] => { results := [.lit (.bool false)], args := [d1, d2, d3] }
  | _ => none }
def EventJoinsWrongFalsely : Prop := eventJoinsRow.holds Try.pinned (OpenSpec.ofChange eventJoinsWrong)

/-- 'impostlaw05.EventKeys': WHATEVER THE INPUT: true; the input reads as it did. -/
def eventKeysSpec : ChangeSpec := { name := "eventKeys", fn := fun _ => fun
  | [d1, d2, d3] => { results := [.lit (.bool true)], args := [d1, d2, d3] }
  | _ => none }
def eventKeysRow : OpenClaim := { program := "ytcjcbcmapjcfnaa", sum := "b6b92f766d636e685e2a2539668fe36aeb7edaf809f730c08d5ec0152004e91d", func := "impost/impostlaw05.EventKeys", spec := "eventKeys", inPlace := ["slices.overlaps[impost/api.KV]"], unfollowed := true, recurses := true, apart := false }
def EventKeysSaid : Prop := eventKeysRow.holds Try.pinned (OpenSpec.ofChange eventKeysSpec)

/-- ITS FALSE NEIGHBOUR: 'it returns false'. Refute it at one input. -/
def eventKeysWrong : ChangeSpec := { name := "eventKeys", fn := fun _ => fun
  | [d1, d2, d3] => { results := [.lit (.bool false)], args := [d1, d2, d3] }
  | _ => none }
def EventKeysWrongFalsely : Prop := eventKeysRow.holds Try.pinned (OpenSpec.ofChange eventKeysWrong)

/- THE SECOND FORM. 'bulk': how many values and letters a reading holds, each counted each time it is reached (what is shared counts as often as it is met; a slice's spare places count too). A statement '..UptoSaid' is the law's where the arguments, and the package variables that the reading takes, are together of bulk at most 1048576: NARROWER than '..Said'. Prove '..Said' where nothing that the law and all that it calls make is longer than what came in: it says more and counts as full. Else prove '..UptoSaid'. A law counts once. -/
mutual
def uptoBulk {H : Type} : DataW H → Nat
  | .lit (.string bytes) => bytes.length + 1
  | .lit _ => 1
  | .nil => 1
  | .ptr d => uptoBulk d + 1
  | .slice elems spare => uptoBulkAll elems + uptoBulkAll spare + 1
  | .agg parts => uptoBulkAll parts + 1
  | .iface _ d => uptoBulk d + 1
  | .map entries => uptoBulkEntries entries + 1
  | .held _ => 1
def uptoBulkAll {H : Type} : List (DataW H) → Nat
  | [] => 0
  | d :: r => uptoBulk d + uptoBulkAll r
def uptoBulkEntries {H : Type} : List (Lit × DataW H) → Nat
  | [] => 0
  | x :: r => uptoBulkEntry x + uptoBulkEntries r
def uptoBulkEntry {H : Type} : Lit × DataW H → Nat
  | (.string bytes, d) => bytes.length + uptoBulk d + 1
  | (_, d) => uptoBulk d + 1
 end
def uptoSmall : (H : Type) → List (DataW H) → Bool := fun _ ds => decide (uptoBulkAll ds ≤ 1048576)
def OpenSpec.upto (s : _root_.Go.ChangeSpec) : _root_.Go.OpenSpec := { _root_.Go.OpenSpec.ofChange s with cond := some uptoSmall }

/-- 'impostlaw05.EventTells', WHERE WHAT IT READS IS OF BULK AT MOST 1048576: true; the input reads as it did. -/
def eventTellsUptoRow : OpenClaim := { program := "ytcjcbcmapjcfnaa", sum := "b6b92f766d636e685e2a2539668fe36aeb7edaf809f730c08d5ec0152004e91d", func := "impost/impostlaw05.EventTells", spec := "eventTells", inPlace := ["slices.overlaps[impost/api.KV]"], unfollowed := true, recurses := true, apart := false, narrowed := true }
def EventTellsUptoSaid : Prop := eventTellsUptoRow.holds Try.pinned (OpenSpec.upto eventTellsSpec)

/-- 'impostlaw05.EventFolds', WHERE WHAT IT READS IS OF BULK AT MOST 1048576: true; the input reads as it did. -/
def eventFoldsUptoRow : OpenClaim := { program := "ytcjcbcmapjcfnaa", sum := "b6b92f766d636e685e2a2539668fe36aeb7edaf809f730c08d5ec0152004e91d", func := "impost/impostlaw05.EventFolds", spec := "eventFolds", inPlace := ["slices.overlaps[impost/api.KV]"], unfollowed := true, recurses := true, apart := false, narrowed := true }
def EventFoldsUptoSaid : Prop := eventFoldsUptoRow.holds Try.pinned (OpenSpec.upto eventFoldsSpec)

/-- 'impostlaw05.EventLast', WHERE WHAT IT READS IS OF BULK AT MOST 1048576: true; the input reads as it did. -/
def eventLastUptoRow : OpenClaim := { program := "ytcjcbcmapjcfnaa", sum := "b6b92f766d636e685e2a2539668fe36aeb7edaf809f730c08d5ec0152004e91d", func := "impost/impostlaw05.EventLast", spec := "eventLast", inPlace := ["slices.overlaps[impost/api.KV]"], unfollowed := true, recurses := true, apart := false, narrowed := true }
def EventLastUptoSaid : Prop := eventLastUptoRow.holds Try.pinned (OpenSpec.upto eventLastSpec)

/-- 'impostlaw05.EventRange', WHERE WHAT IT READS IS OF BULK AT MOST 1048576: true; the input reads as it did. -/
def eventRangeUptoRow : OpenClaim := { program := "ytcjcbcmapjcfnaa", sum := "b6b92f766d636e685e2a2539668fe36aeb7edaf809f730c08d5ec0152004e91d", func := "impost/impostlaw05.EventRange", spec := "eventRange", inPlace := ["slices.overlaps[impost/api.KV]"], unfollowed := true, recurses := true, apart := false, narrowed := true }
def EventRangeUptoSaid : Prop := eventRangeUptoRow.holds Try.pinned (OpenSpec.upto eventRangeSpec)

/-- 'impostlaw05.EventJoins', WHERE WHAT IT READS IS OF BULK AT MOST 1048576: true; the input reads as it did. -/
def eventJoinsUptoRow : OpenClaim := { program := "ytcjcbcmapjcfnaa", sum := "b6b92f766d636e685e2a2539668fe36aeb7edaf809f730c08d5ec0152004e91d", func := "impost/impostlaw05.EventJoins", spec := "eventJoins", inPlace := ["slices.overlaps[impost/api.KV]"], unfollowed := true, recurses := true, apart := false, narrowed := true }
def EventJoinsUptoSaid : Prop := eventJoinsUptoRow.holds Try.pinned (OpenSpec.upto eventJoinsSpec)

/-- 'impostlaw05.EventKeys', WHERE WHAT IT READS IS OF BULK AT MOST 1048576: true; the input reads as it did. -/
def eventKeysUptoRow : OpenClaim := { program := "ytcjcbcmapjcfnaa", sum := "b6b92f766d636e685e2a2539668fe36aeb7edaf809f730c08d5ec0152004e91d", func := "impost/impostlaw05.EventKeys", spec := "eventKeys", inPlace := ["slices.overlaps[impost/api.KV]"], unfollowed := true, recurses := true, apart := false, narrowed := true }
def EventKeysUptoSaid : Prop := eventKeysUptoRow.holds Try.pinned (OpenSpec.upto eventKeysSpec)

end Rows
end Go.Proofs.Ytcjcbcmapjcfnaa
