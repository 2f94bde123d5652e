/-
  No cell of these rows narrows 'for every input' (looked for: loops, veiled, ifaces, maps, wideKeys, modest, calm, conditions, laid).
  DERIVED. THE GIVEN ROWS OF THIS SEAT. 12 by the template 'for every input the law returns true; each argument reads behind the call as it read before'; 0 by the template 'total and deterministic' (their statements: YtaieciabjlegkaaGreatTotals.lean).
  GIVEN WITH THE SEED: the statements are not yours to turn. If you find one false, say at which input.
  Laid BY PROGRAM, IN A SANDBOX (cutbox-rows.mjs): the forced cells as the released guide's own fill.sh prints them over the translation a709ffe0ad96d71b… (all of the seat's roots in one cut). By AI agents, Wed Nov 11 2026. No macro, syntax, notation, axiom, sorry.
-/
import Derived.Test.YtaieciabjlegkaaGreatChecked
import GoSem.Claim
import GoSem.ClaimJoined
import GoSem.ClaimMapViews
import Derived.JoinedTies
import Derived.KernelRfl
namespace Go.Proofs.YtaieciabjlegkaaGreat
/- THE CELL 'sum', in the pinned program and in every row, IS THE sha256 OF THE DUMP (.gsa) THAT YtaieciabjlegkaaGreatProg.lean LOADS. Nothing in Lean hashes anything: it is a label: what it is worth is what the hold of that sum in a sandbox is worth. -/
noncomputable def Tryz.pinned : Pinned := { name := "ytaieciabjlegkaagreat", sum := "a709ffe0ad96d71bd603ed553b222f3b21a99fe2c2ac9eda3c01cc22358a6782", checked := Tryz.checked }
namespace Rows
def none {H : Type} : Left H := { results := [], args := [] }

/-- 'impostlaw21.CallsFit': WHATEVER THE INPUT: true; the input reads as it did. -/
def callsFitSpec : ChangeSpec := { name := "callsFit", fn := fun _ => fun
  | [d1, d2] => { results := [.lit (.bool true)], args := [d1, d2] }
  | _ => none }
def callsFitRow : OpenClaim := { program := "ytaieciabjlegkaagreat", sum := "a709ffe0ad96d71bd603ed553b222f3b21a99fe2c2ac9eda3c01cc22358a6782", func := "impost/impostlaw21.CallsFit", spec := "callsFit", unfollowed := true, recurses := true, apart := false }
def CallsFitSaid : Prop := callsFitRow.holds Tryz.pinned (OpenSpec.ofChange callsFitSpec)

/-- ITS FALSE NEIGHBOUR: 'it returns false'. Refute it at one input. -/
def callsFitWrong : ChangeSpec := { name := "callsFit", fn := fun _ => fun
  | [d1, d2] => { results := [.lit (.bool false)], args := [d1, d2] }
  | _ => none }
def CallsFitWrongFalsely : Prop := callsFitRow.holds Tryz.pinned (OpenSpec.ofChange callsFitWrong)

/-- 'impostlaw21.CallsNotes': WHATEVER THE INPUT: true; the input reads as it did. -/
def callsNotesSpec : ChangeSpec := { name := "callsNotes", fn := fun _ => fun
  | [d1, d2] => { results := [.lit (.bool true)], args := [d1, d2] }
  | _ => none }
def callsNotesRow : OpenClaim := { program := "ytaieciabjlegkaagreat", sum := "a709ffe0ad96d71bd603ed553b222f3b21a99fe2c2ac9eda3c01cc22358a6782", func := "impost/impostlaw21.CallsNotes", spec := "callsNotes", unfollowed := true, recurses := true, apart := false }
def CallsNotesSaid : Prop := callsNotesRow.holds Tryz.pinned (OpenSpec.ofChange callsNotesSpec)

/-- ITS FALSE NEIGHBOUR: 'it returns false'. Refute it at one input. -/
def callsNotesWrong : ChangeSpec := { name := "callsNotes", fn := fun _ => fun
  | [d1, d2] => { results := [.lit (.bool false)], args := [d1, d2] }
  | _ => none }
def CallsNotesWrongFalsely : Prop := callsNotesRow.holds Tryz.pinned (OpenSpec.ofChange callsNotesWrong)

/-- 'impostlaw21.CallsHeads': WHATEVER THE INPUT: true; the input reads as it did. -/
def callsHeadsSpec : ChangeSpec := { name := "callsHeads", fn := fun _ => fun
  | [d1, d2] => { results := [.lit (.bool true)], args := [d1, d2] }
  | _ => none }
def callsHeadsRow : OpenClaim := { program := "ytaieciabjlegkaagreat", sum := "a709ffe0ad96d71bd603ed553b222f3b21a99fe2c2ac9eda3c01cc22358a6782", func := "impost/impostlaw21.CallsHeads", spec := "callsHeads", unfollowed := true, recurses := true, apart := false }
def CallsHeadsSaid : Prop := callsHeadsRow.holds Tryz.pinned (OpenSpec.ofChange callsHeadsSpec)

/-- ITS FALSE NEIGHBOUR: 'it returns false'. Refute it at one input. -/
def callsHeadsWrong : ChangeSpec := { name := "callsHeads", fn := fun _ => fun
  | [d1, d2] => { results := [.lit (.bool false)], args := [d1, d2] }
  | _ => none }
def CallsHeadsWrongFalsely : Prop := callsHeadsRow.holds Tryz.pinned (OpenSpec.ofChange callsHeadsWrong)

/-- 'impostlaw21.CallsNobody': WHATEVER THE INPUT: true; the input reads as it did. -/
def callsNobodySpec : ChangeSpec := { name := "callsNobody", fn := fun _ => fun
  | [d1, d2, d3] => { results := [.lit (.bool true)], args := [d1, d2, d3] }
  | _ => none }
def callsNobodyRow : OpenClaim := { program := "ytaieciabjlegkaagreat", sum := "a709ffe0ad96d71bd603ed553b222f3b21a99fe2c2ac9eda3c01cc22358a6782", func := "impost/impostlaw21.CallsNobody", spec := "callsNobody", unfollowed := true, recurses := true, apart := false }
def CallsNobodySaid : Prop := callsNobodyRow.holds Tryz.pinned (OpenSpec.ofChange callsNobodySpec)

/-- ITS FALSE NEIGHBOUR: 'it returns false'. Refute it at one input. -/
def callsNobodyWrong : ChangeSpec := { name := "callsNobody", fn := fun _ => fun
  | [d1, d2, d3] => { results := [.lit (.bool false)], args := [d1, d2, d3] }
  | _ => none }
def CallsNobodyWrongFalsely : Prop := callsNobodyRow.holds Tryz.pinned (OpenSpec.ofChange callsNobodyWrong)

/-- 'impostlaw20.CoreNobody': WHATEVER THE INPUT: true; the input reads as it did. -/
def coreNobodySpec : ChangeSpec := { name := "coreNobody", fn := fun _ => fun
  | [d1, d2] => { results := [.lit (.bool true)], args := [d1, d2] }
  | _ => none }
def coreNobodyRow : OpenClaim := { program := "ytaieciabjlegkaagreat", sum := "a709ffe0ad96d71bd603ed553b222f3b21a99fe2c2ac9eda3c01cc22358a6782", func := "impost/impostlaw20.CoreNobody", spec := "coreNobody", unfollowed := true, recurses := true, apart := false }
def CoreNobodySaid : Prop := coreNobodyRow.holds Tryz.pinned (OpenSpec.ofChange coreNobodySpec)

/-- ITS FALSE NEIGHBOUR: 'it returns false'. Refute it at one input. -/
def coreNobodyWrong : ChangeSpec := { name := "coreNobody", fn := fun _ => fun
  | [d1, d2] => { results := [.lit (.bool false)], args := [d1, d2] }
  | _ => none }
def CoreNobodyWrongFalsely : Prop := coreNobodyRow.holds Tryz.pinned (OpenSpec.ofChange coreNobodyWrong)

/-- 'impostlaw22.WatchWants': WHATEVER THE INPUT: true; the input reads as it did. -/
def watchWantsSpec : ChangeSpec := { name := "watchWants", fn := fun _ => fun
  | [d1, d2, d3] => { results := [.lit (.bool true)], args := [d1, d2, d3] }
  | _ => none }
def watchWantsRow : OpenClaim := { program := "ytaieciabjlegkaagreat", sum := "a709ffe0ad96d71bd603ed553b222f3b21a99fe2c2ac9eda3c01cc22358a6782", func := "impost/impostlaw22.WatchWants", spec := "watchWants", inPlace := ["slices.overlaps[impost/subidx.node]", "internal/abi.NoEscape"], unfollowed := true, recurses := true, apart := false }
def WatchWantsSaid : Prop := watchWantsRow.holds Tryz.pinned (OpenSpec.ofChange watchWantsSpec)

/-- ITS FALSE NEIGHBOUR: 'it returns false'. Refute it at one input. -/
def watchWantsWrong : ChangeSpec := { name := "watchWants", fn := fun _ => fun
  | [d1, d2, d3] => { results := [.lit (.bool false)], args := [d1, d2, d3] }
  | _ => none }
def WatchWantsWrongFalsely : Prop := watchWantsRow.holds Tryz.pinned (OpenSpec.ofChange watchWantsWrong)

/-- 'impostlaw22.WatchBusy': WHATEVER THE INPUT: true; the input reads as it did. -/
def watchBusySpec : ChangeSpec := { name := "watchBusy", fn := fun _ => fun
  | [d1, d2] => { results := [.lit (.bool true)], args := [d1, d2] }
  | _ => none }
def watchBusyRow : OpenClaim := { program := "ytaieciabjlegkaagreat", sum := "a709ffe0ad96d71bd603ed553b222f3b21a99fe2c2ac9eda3c01cc22358a6782", func := "impost/impostlaw22.WatchBusy", spec := "watchBusy", inPlace := ["slices.overlaps[impost/subidx.node]", "internal/abi.NoEscape"], unfollowed := true, recurses := true, apart := false }
def WatchBusySaid : Prop := watchBusyRow.holds Tryz.pinned (OpenSpec.ofChange watchBusySpec)

/-- ITS FALSE NEIGHBOUR: 'it returns false'. Refute it at one input. -/
def watchBusyWrong : ChangeSpec := { name := "watchBusy", fn := fun _ => fun
  | [d1, d2] => { results := [.lit (.bool false)], args := [d1, d2] }
  | _ => none }
def WatchBusyWrongFalsely : Prop := watchBusyRow.holds Tryz.pinned (OpenSpec.ofChange watchBusyWrong)

/-- 'impostlaw22.WatchNobody': WHATEVER THE INPUT: true; the input reads as it did. -/
def watchNobodySpec : ChangeSpec := { name := "watchNobody", fn := fun _ => fun
  | [d1, d2, d3] => { results := [.lit (.bool true)], args := [d1, d2, d3] }
  | _ => none }
def watchNobodyRow : OpenClaim := { program := "ytaieciabjlegkaagreat", sum := "a709ffe0ad96d71bd603ed553b222f3b21a99fe2c2ac9eda3c01cc22358a6782", func := "impost/impostlaw22.WatchNobody", spec := "watchNobody", inPlace := ["slices.overlaps[impost/subidx.node]", "internal/abi.NoEscape"], unfollowed := true, recurses := true, apart := false }
def WatchNobodySaid : Prop := watchNobodyRow.holds Tryz.pinned (OpenSpec.ofChange watchNobodySpec)

/-- ITS FALSE NEIGHBOUR: 'it returns false'. Refute it at one input. -/
def watchNobodyWrong : ChangeSpec := { name := "watchNobody", fn := fun _ => fun
  | [d1, d2, d3] => { results := [.lit (.bool false)], args := [d1, d2, d3] }
  | _ => none }
def WatchNobodyWrongFalsely : Prop := watchNobodyRow.holds Tryz.pinned (OpenSpec.ofChange watchNobodyWrong)

/-- 'impostlaw23.FeedFits': WHATEVER THE INPUT: true; the input reads as it did. -/
def feedFitsSpec : ChangeSpec := { name := "feedFits", fn := fun _ => fun
  | [d1, d2] => { results := [.lit (.bool true)], args := [d1, d2] }
  | _ => none }
def feedFitsRow : OpenClaim := { program := "ytaieciabjlegkaagreat", sum := "a709ffe0ad96d71bd603ed553b222f3b21a99fe2c2ac9eda3c01cc22358a6782", func := "impost/impostlaw23.FeedFits", spec := "feedFits", inPlace := ["slices.overlaps[impost/subidx.node]", "internal/abi.NoEscape"], unfollowed := true, recurses := true, apart := false }
def FeedFitsSaid : Prop := feedFitsRow.holds Tryz.pinned (OpenSpec.ofChange feedFitsSpec)

/-- ITS FALSE NEIGHBOUR: 'it returns false'. Refute it at one input. -/
def feedFitsWrong : ChangeSpec := { name := "feedFits", fn := fun _ => fun
  | [d1, d2] => { results := [.lit (.bool false)], args := [d1, d2] }
  | _ => none }
def FeedFitsWrongFalsely : Prop := feedFitsRow.holds Tryz.pinned (OpenSpec.ofChange feedFitsWrong)

/-- 'impostlaw23.FeedWatches': WHATEVER THE INPUT: true; the input reads as it did. -/
def feedWatchesSpec : ChangeSpec := { name := "feedWatches", fn := fun _ => fun
  | [d1, d2] => { results := [.lit (.bool true)], args := [d1, d2] }
  | _ => none }
def feedWatchesRow : OpenClaim := { program := "ytaieciabjlegkaagreat", sum := "a709ffe0ad96d71bd603ed553b222f3b21a99fe2c2ac9eda3c01cc22358a6782", func := "impost/impostlaw23.FeedWatches", spec := "feedWatches", inPlace := ["slices.overlaps[impost/subidx.node]", "internal/abi.NoEscape"], unfollowed := true, recurses := true, apart := false }
def FeedWatchesSaid : Prop := feedWatchesRow.holds Tryz.pinned (OpenSpec.ofChange feedWatchesSpec)

/-- ITS FALSE NEIGHBOUR: 'it returns false'. Refute it at one input. -/
def feedWatchesWrong : ChangeSpec := { name := "feedWatches", fn := fun _ => fun
  | [d1, d2] => { results := [.lit (.bool false)], args := [d1, d2] }
  | _ => none }
def FeedWatchesWrongFalsely : Prop := feedWatchesRow.holds Tryz.pinned (OpenSpec.ofChange feedWatchesWrong)

/-- 'impostlaw23.FeedNotes': WHATEVER THE INPUT: true; the input reads as it did. -/
def feedNotesSpec : ChangeSpec := { name := "feedNotes", fn := fun _ => fun
  | [d1, d2] => { results := [.lit (.bool true)], args := [d1, d2] }
  | _ => none }
def feedNotesRow : OpenClaim := { program := "ytaieciabjlegkaagreat", sum := "a709ffe0ad96d71bd603ed553b222f3b21a99fe2c2ac9eda3c01cc22358a6782", func := "impost/impostlaw23.FeedNotes", spec := "feedNotes", inPlace := ["slices.overlaps[impost/subidx.node]", "internal/abi.NoEscape"], unfollowed := true, recurses := true, apart := false }
def FeedNotesSaid : Prop := feedNotesRow.holds Tryz.pinned (OpenSpec.ofChange feedNotesSpec)

/-- ITS FALSE NEIGHBOUR: 'it returns false'. Refute it at one input. -/
def feedNotesWrong : ChangeSpec := { name := "feedNotes", fn := fun _ => fun
  | [d1, d2] => { results := [.lit (.bool false)], args := [d1, d2] }
  | _ => none }
def FeedNotesWrongFalsely : Prop := feedNotesRow.holds Tryz.pinned (OpenSpec.ofChange feedNotesWrong)

/-- 'impostlaw23.FeedNobody': WHATEVER THE INPUT: true; the input reads as it did. -/
def feedNobodySpec : ChangeSpec := { name := "feedNobody", fn := fun _ => fun
  | [d1, d2] => { results := [.lit (.bool true)], args := [d1, d2] }
  | _ => none }
def feedNobodyRow : OpenClaim := { program := "ytaieciabjlegkaagreat", sum := "a709ffe0ad96d71bd603ed553b222f3b21a99fe2c2ac9eda3c01cc22358a6782", func := "impost/impostlaw23.FeedNobody", spec := "feedNobody", inPlace := ["slices.overlaps[impost/subidx.node]", "internal/abi.NoEscape"], unfollowed := true, recurses := true, apart := false }
def FeedNobodySaid : Prop := feedNobodyRow.holds Tryz.pinned (OpenSpec.ofChange feedNobodySpec)

/-- ITS FALSE NEIGHBOUR: 'it returns false'. Refute it at one input. -/
def feedNobodyWrong : ChangeSpec := { name := "feedNobody", fn := fun _ => fun
  | [d1, d2] => { results := [.lit (.bool false)], args := [d1, d2] }
  | _ => none }
def FeedNobodyWrongFalsely : Prop := feedNobodyRow.holds Tryz.pinned (OpenSpec.ofChange feedNobodyWrong)

/- THE SECOND FORM. 'bulk': how many values and letters a reading holds, each counted each time it is reached (what is shared counts as often as it is met; a slice's spare places count too). A statement '..UptoSaid' is the law's where the arguments, and the package variables that the reading takes, are together of bulk at most 1048576: NARROWER than '..Said'. Prove '..Said' where nothing that the law and all that it calls make is longer than what came in: it says more and counts as full. Else prove '..UptoSaid'. A law counts once. -/
mutual
def uptoBulk {H : Type} : DataW H → Nat
  | .lit (.string bytes) => bytes.length + 1
  | .lit _ => 1
  | .nil => 1
  | .ptr d => uptoBulk d + 1
  | .slice elems spare => uptoBulkAll elems + uptoBulkAll spare + 1
  | .agg parts => uptoBulkAll parts + 1
  | .iface _ d => uptoBulk d + 1
  | .map entries => uptoBulkEntries entries + 1
  | .held _ => 1
def uptoBulkAll {H : Type} : List (DataW H) → Nat
  | [] => 0
  | d :: r => uptoBulk d + uptoBulkAll r
def uptoBulkEntries {H : Type} : List (Lit × DataW H) → Nat
  | [] => 0
  | x :: r => uptoBulkEntry x + uptoBulkEntries r
def uptoBulkEntry {H : Type} : Lit × DataW H → Nat
  | (.string bytes, d) => bytes.length + uptoBulk d + 1
  | (_, d) => uptoBulk d + 1
 end
def uptoSmall : (H : Type) → List (DataW H) → Bool := fun _ ds => decide (uptoBulkAll ds ≤ 1048576)
def OpenSpec.upto (s : _root_.Go.ChangeSpec) : _root_.Go.OpenSpec := { _root_.Go.OpenSpec.ofChange s with cond := some uptoSmall }

/-- 'impostlaw21.CallsFit', WHERE WHAT IT READS IS OF BULK AT MOST 1048576: true; the input reads as it did. -/
def callsFitUptoRow : OpenClaim := { program := "ytaieciabjlegkaagreat", sum := "a709ffe0ad96d71bd603ed553b222f3b21a99fe2c2ac9eda3c01cc22358a6782", func := "impost/impostlaw21.CallsFit", spec := "callsFit", unfollowed := true, recurses := true, apart := false, narrowed := true }
def CallsFitUptoSaid : Prop := callsFitUptoRow.holds Tryz.pinned (OpenSpec.upto callsFitSpec)

/-- 'impostlaw21.CallsNotes', WHERE WHAT IT READS IS OF BULK AT MOST 1048576: true; the input reads as it did. -/
def callsNotesUptoRow : OpenClaim := { program := "ytaieciabjlegkaagreat", sum := "a709ffe0ad96d71bd603ed553b222f3b21a99fe2c2ac9eda3c01cc22358a6782", func := "impost/impostlaw21.CallsNotes", spec := "callsNotes", unfollowed := true, recurses := true, apart := false, narrowed := true }
def CallsNotesUptoSaid : Prop := callsNotesUptoRow.holds Tryz.pinned (OpenSpec.upto callsNotesSpec)

/-- 'impostlaw21.CallsHeads', WHERE WHAT IT READS IS OF BULK AT MOST 1048576: true; the input reads as it did. -/
def callsHeadsUptoRow : OpenClaim := { program := "ytaieciabjlegkaagreat", sum := "a709ffe0ad96d71bd603ed553b222f3b21a99fe2c2ac9eda3c01cc22358a6782", func := "impost/impostlaw21.CallsHeads", spec := "callsHeads", unfollowed := true, recurses := true, apart := false, narrowed := true }
def CallsHeadsUptoSaid : Prop := callsHeadsUptoRow.holds Tryz.pinned (OpenSpec.upto callsHeadsSpec)

/-- 'impostlaw21.CallsNobody', WHERE WHAT IT READS IS OF BULK AT MOST 1048576: true; the input reads as it did. -/
def callsNobodyUptoRow : OpenClaim := { program := "ytaieciabjlegkaagreat", sum := "a709ffe0ad96d71bd603ed553b222f3b21a99fe2c2ac9eda3c01cc22358a6782", func := "impost/impostlaw21.CallsNobody", spec := "callsNobody", unfollowed := true, recurses := true, apart := false, narrowed := true }
def CallsNobodyUptoSaid : Prop := callsNobodyUptoRow.holds Tryz.pinned (OpenSpec.upto callsNobodySpec)

/-- 'impostlaw20.CoreNobody', WHERE WHAT IT READS IS OF BULK AT MOST 1048576: true; the input reads as it did. -/
def coreNobodyUptoRow : OpenClaim := { program := "ytaieciabjlegkaagreat", sum := "a709ffe0ad96d71bd603ed553b222f3b21a99fe2c2ac9eda3c01cc22358a6782", func := "impost/impostlaw20.CoreNobody", spec := "coreNobody", unfollowed := true, recurses := true, apart := false, narrowed := true }
def CoreNobodyUptoSaid : Prop := coreNobodyUptoRow.holds Tryz.pinned (OpenSpec.upto coreNobodySpec)

/-- 'impostlaw22.WatchWants', WHERE WHAT IT READS IS OF BULK AT MOST 1048576: true; the input reads as it did. -/
def watchWantsUptoRow : OpenClaim := { program := "ytaieciabjlegkaagreat", sum := "a709ffe0ad96d71bd603ed553b222f3b21a99fe2c2ac9eda3c01cc22358a6782", func := "impost/impostlaw22.WatchWants", spec := "watchWants", inPlace := ["slices.overlaps[impost/subidx.node]", "internal/abi.NoEscape"], unfollowed := true, recurses := true, apart := false, narrowed := true }
def WatchWantsUptoSaid : Prop := watchWantsUptoRow.holds Tryz.pinned (OpenSpec.upto watchWantsSpec)

/-- 'impostlaw22.WatchBusy', WHERE WHAT IT READS IS OF BULK AT MOST 1048576: true; the input reads as it did. -/
def watchBusyUptoRow : OpenClaim := { program := "ytaieciabjlegkaagreat", sum := "a709ffe0ad96d71bd603ed553b222f3b21a99fe2c2ac9eda3c01cc22358a6782", func := "impost/impostlaw22.WatchBusy", spec := "watchBusy", inPlace := ["slices.overlaps[impost/subidx.node]", "internal/abi.NoEscape"], unfollowed := true, recurses := true, apart := false, narrowed := true }
def WatchBusyUptoSaid : Prop := watchBusyUptoRow.holds Tryz.pinned (OpenSpec.upto watchBusySpec)

/-- 'impostlaw22.WatchNobody', WHERE WHAT IT READS IS OF BULK AT MOST 1048576: true; the input reads as it did. -/
def watchNobodyUptoRow : OpenClaim := { program := "ytaieciabjlegkaagreat", sum := "a709ffe0ad96d71bd603ed553b222f3b21a99fe2c2ac9eda3c01cc22358a6782", func := "impost/impostlaw22.WatchNobody", spec := "watchNobody", inPlace := ["slices.overlaps[impost/subidx.node]", "internal/abi.NoEscape"], unfollowed := true, recurses := true, apart := false, narrowed := true }
def WatchNobodyUptoSaid : Prop := watchNobodyUptoRow.holds Tryz.pinned (OpenSpec.upto watchNobodySpec)

/-- 'impostlaw23.FeedFits', WHERE WHAT IT READS IS OF BULK AT MOST 1048576: true; the input reads as it did. -/
def feedFitsUptoRow : OpenClaim := { program := "ytaieciabjlegkaagreat", sum := "a709ffe0ad96d71bd603ed553b222f3b21a99fe2c2ac9eda3c01cc22358a6782", func := "impost/impostlaw23.FeedFits", spec := "feedFits", inPlace := ["slices.overlaps[impost/subidx.node]", "internal/abi.NoEscape"], unfollowed := true, recurses := true, apart := false, narrowed := true }
def FeedFitsUptoSaid : Prop := feedFitsUptoRow.holds Tryz.pinned (OpenSpec.upto feedFitsSpec)

/-- 'impostlaw23.FeedWatches', WHERE WHAT IT READS IS OF BULK AT MOST 1048576: true; the input reads as it did. -/
def feedWatchesUptoRow : OpenClaim := { program := "ytaieciabjlegkaagreat", sum := "a709ffe0ad96d71bd603ed553b222f3b21a99fe2c2ac9eda3c01cc22358a6782", func := "impost/impostlaw23.FeedWatches", spec := "feedWatches", inPlace := ["slices.overlaps[impost/subidx.node]", "internal/abi.NoEscape"], unfollowed := true, recurses := true, apart := false, narrowed := true }
def FeedWatchesUptoSaid : Prop := feedWatchesUptoRow.holds Tryz.pinned (OpenSpec.upto feedWatchesSpec)

/-- 'impostlaw23.FeedNotes', WHERE WHAT IT READS IS OF BULK AT MOST 1048576: true; the input reads as it did. -/
def feedNotesUptoRow : OpenClaim := { program := "ytaieciabjlegkaagreat", sum := "a709ffe0ad96d71bd603ed553b222f3b21a99fe2c2ac9eda3c01cc22358a6782", func := "impost/impostlaw23.FeedNotes", spec := "feedNotes", inPlace := ["slices.overlaps[impost/subidx.node]", "internal/abi.NoEscape"], unfollowed := true, recurses := true, apart := false, narrowed := true }
def FeedNotesUptoSaid : Prop := feedNotesUptoRow.holds Tryz.pinned (OpenSpec.upto feedNotesSpec)

/-- 'impostlaw23.FeedNobody', WHERE WHAT IT READS IS OF BULK AT MOST 1048576: true; the input reads as it did. -/
def feedNobodyUptoRow : OpenClaim := { program := "ytaieciabjlegkaagreat", sum := "a709ffe0ad96d71bd603ed553b222f3b21a99fe2c2ac9eda3c01cc22358a6782", func := "impost/impostlaw23.FeedNobody", spec := "feedNobody", inPlace := ["slices.overlaps[impost/subidx.node]", "internal/abi.NoEscape"], unfollowed := true, recurses := true, apart := false, narrowed := true }
def FeedNobodyUptoSaid : Prop := feedNobodyUptoRow.holds Tryz.pinned (OpenSpec.upto feedNobodySpec)

end Rows
end Go.Proofs.YtaieciabjlegkaaGreat
