/-
  No cell of these rows narrows 'for every input' (looked for: loops, veiled, ifaces, maps, wideKeys, modest, calm, conditions, laid).
  DERIVED. THE GIVEN ROWS OF THIS SEAT. 11 by the template 'for every input the law returns true; each argument reads behind the call as it read before'; 0 by the template 'total and deterministic' (their statements: YtpfdandpmpmbiaaTotals.lean).
  GIVEN WITH THE SEED: the statements are not yours to turn. If you find one false, say at which input.
  Laid BY PROGRAM, IN A SANDBOX (cutbox-rows.mjs): the forced cells as the released guide's own fill.sh prints them over the translation 778266edd6026378… (all of the seat's roots in one cut). By AI agents, Wed Nov 11 2026. No macro, syntax, notation, axiom, sorry.
-/
import Derived.Test.YtpfdandpmpmbiaaChecked
import GoSem.Claim
import GoSem.ClaimJoined
import GoSem.ClaimMapViews
import Derived.JoinedTies
import Derived.KernelRfl
namespace Go.Proofs.Ytpfdandpmpmbiaa
/- THE CELL 'sum', in the pinned program and in every row, IS THE sha256 OF THE DUMP (.gsa) THAT YtpfdandpmpmbiaaProg.lean LOADS. Nothing in Lean hashes anything: it is a label: what it is worth is what the hold of that sum in a sandbox is worth. -/
noncomputable def Try.pinned : Pinned := { name := "ytpfdandpmpmbiaa", sum := "778266edd6026378941c38faa217e5117311b2b8911b52b56b19c4e6207bac37", checked := Try.checked }
namespace Rows
def none {H : Type} : Left H := { results := [], args := [] }

/-- 'impostlaw06.HistStays': WHATEVER THE INPUT: true; the input reads as it did. -/
def histStaysSpec : ChangeSpec := { name := "histStays", fn := fun _ => fun
  | [d1, d2, d3] => { results := [.lit (.bool true)], args := [d1, d2, d3] }
  | _ => none }
def histStaysRow : OpenClaim := { program := "ytpfdandpmpmbiaa", sum := "778266edd6026378941c38faa217e5117311b2b8911b52b56b19c4e6207bac37", func := "impost/impostlaw06.HistStays", spec := "histStays", inPlace := ["slices.overlaps[impost/api.KV]"], unfollowed := true, recurses := true, apart := false }
def HistStaysSaid : Prop := histStaysRow.holds Try.pinned (OpenSpec.ofChange histStaysSpec)

/-- ITS FALSE NEIGHBOUR: 'it returns false'. Refute it at one input. -/
def histStaysWrong : ChangeSpec := { name := "histStays", fn := fun _ => fun
  | [d1, d2, d3] => { results := [.lit (.bool false)], args := [d1, d2, d3] }
  | _ => none }
def HistStaysWrongFalsely : Prop := histStaysRow.holds Try.pinned (OpenSpec.ofChange histStaysWrong)

/-- 'impostlaw06.HistPuts': WHATEVER THE INPUT: true; the input reads as it did. -/
def histPutsSpec : ChangeSpec := { name := "histPuts", fn := fun _ => fun
  | [d1, d2, d3] => { results := [.lit (.bool true)], args := [d1, d2, d3] }
  | _ => none }
def histPutsRow : OpenClaim := { program := "ytpfdandpmpmbiaa", sum := "778266edd6026378941c38faa217e5117311b2b8911b52b56b19c4e6207bac37", func := "impost/impostlaw06.HistPuts", spec := "histPuts", inPlace := ["slices.overlaps[impost/api.KV]"], unfollowed := true, recurses := true, apart := false }
def HistPutsSaid : Prop := histPutsRow.holds Try.pinned (OpenSpec.ofChange histPutsSpec)

/-- ITS FALSE NEIGHBOUR: 'it returns false'. Refute it at one input. -/
def histPutsWrong : ChangeSpec := { name := "histPuts", fn := fun _ => fun
  | [d1, d2, d3] => { results := [.lit (.bool false)], args := [d1, d2, d3] }
  | _ => none }
def HistPutsWrongFalsely : Prop := histPutsRow.holds Try.pinned (OpenSpec.ofChange histPutsWrong)

/-- 'impostlaw06.HistHorizon': WHATEVER THE INPUT: true; the input reads as it did. -/
def histHorizonSpec : ChangeSpec := { name := "histHorizon", fn := fun _ => fun
  | [d1, d2] => { results := [.lit (.bool true)], args := [d1, d2] }
  | _ => none }
def histHorizonRow : OpenClaim := { program := "ytpfdandpmpmbiaa", sum := "778266edd6026378941c38faa217e5117311b2b8911b52b56b19c4e6207bac37", func := "impost/impostlaw06.HistHorizon", spec := "histHorizon", inPlace := ["slices.overlaps[impost/api.KV]"], unfollowed := true, recurses := true, apart := false }
def HistHorizonSaid : Prop := histHorizonRow.holds Try.pinned (OpenSpec.ofChange histHorizonSpec)

/-- ITS FALSE NEIGHBOUR: 'it returns false'. Refute it at one input. -/
def histHorizonWrong : ChangeSpec := { name := "histHorizon", fn := fun _ => fun
  | [d1, d2] => { results := [.lit (.bool false)], args := [d1, d2] }
  | _ => none }
def HistHorizonWrongFalsely : Prop := histHorizonRow.holds Try.pinned (OpenSpec.ofChange histHorizonWrong)

/-- 'impostlaw06.HistCopies': WHATEVER THE INPUT: true; the input reads as it did. -/
def histCopiesSpec : ChangeSpec := { name := "histCopies", fn := fun _ => fun
  | [d1, d2] => { results := [.lit (.bool true)], args := [d1, d2] }
  | _ => none }
def histCopiesRow : OpenClaim := { program := "ytpfdandpmpmbiaa", sum := "778266edd6026378941c38faa217e5117311b2b8911b52b56b19c4e6207bac37", func := "impost/impostlaw06.HistCopies", spec := "histCopies", inPlace := ["slices.overlaps[impost/api.KV]", "maps.clone"], unfollowed := true, recurses := true, apart := false }
def HistCopiesSaid : Prop := histCopiesRow.holds Try.pinned (OpenSpec.ofChange histCopiesSpec)

/-- ITS FALSE NEIGHBOUR: 'it returns false'. Refute it at one input. -/
def histCopiesWrong : ChangeSpec := { name := "histCopies", fn := fun _ => fun
  | [d1, d2] => { results := [.lit (.bool false)], args := [d1, d2] }
  | _ => none }
def HistCopiesWrongFalsely : Prop := histCopiesRow.holds Try.pinned (OpenSpec.ofChange histCopiesWrong)

/-- 'impostlaw07.TxnChanges': WHATEVER THE INPUT: true; the input reads as it did. -/
def txnChangesSpec : ChangeSpec := { name := "txnChanges", fn := fun _ => fun
  | [d1, d2] => { results := [.lit (.bool true)], args := [d1, d2] }
  | _ => none }
def txnChangesRow : OpenClaim := { program := "ytpfdandpmpmbiaa", sum := "778266edd6026378941c38faa217e5117311b2b8911b52b56b19c4e6207bac37", func := "impost/impostlaw07.TxnChanges", spec := "txnChanges", inPlace := ["slices.overlaps[impost/api.KV]"], unfollowed := true, recurses := true, apart := false }
def TxnChangesSaid : Prop := txnChangesRow.holds Try.pinned (OpenSpec.ofChange txnChangesSpec)

/-- ITS FALSE NEIGHBOUR: 'it returns false'. Refute it at one input. -/
def txnChangesWrong : ChangeSpec := { name := "txnChanges", fn := fun _ => fun
  | [d1, d2] => { results := [.lit (.bool false)], args := [d1, d2] }
  | _ => none }
def TxnChangesWrongFalsely : Prop := txnChangesRow.holds Try.pinned (OpenSpec.ofChange txnChangesWrong)

/-- 'impostlaw08.ModelHeads': WHATEVER THE INPUT: true; the input reads as it did. -/
def modelHeadsSpec : ChangeSpec := { name := "modelHeads", fn := fun _ => fun
  | [d] => { results := [.lit (.bool true)], args := [d] }
  | _ => none }
def modelHeadsRow : OpenClaim := { program := "ytpfdandpmpmbiaa", sum := "778266edd6026378941c38faa217e5117311b2b8911b52b56b19c4e6207bac37", func := "impost/impostlaw08.ModelHeads", spec := "modelHeads", inPlace := ["slices.overlaps[impost/api.KV]", "maps.clone"], unfollowed := true, recurses := true, apart := false }
def ModelHeadsSaid : Prop := modelHeadsRow.holds Try.pinned (OpenSpec.ofChange modelHeadsSpec)

/-- ITS FALSE NEIGHBOUR: 'it returns false'. Refute it at one input. -/
def modelHeadsWrong : ChangeSpec := { name := "modelHeads", fn := fun _ => fun
  | [d] => { results := [.lit (.bool false)], args := [d] }
  | _ => none }
def ModelHeadsWrongFalsely : Prop := modelHeadsRow.holds Try.pinned (OpenSpec.ofChange modelHeadsWrong)

/-- 'impostlaw08.ModelRefused': WHATEVER THE INPUT: true; the input reads as it did. -/
def modelRefusedSpec : ChangeSpec := { name := "modelRefused", fn := fun _ => fun
  | [d1, d2] => { results := [.lit (.bool true)], args := [d1, d2] }
  | _ => none }
def modelRefusedRow : OpenClaim := { program := "ytpfdandpmpmbiaa", sum := "778266edd6026378941c38faa217e5117311b2b8911b52b56b19c4e6207bac37", func := "impost/impostlaw08.ModelRefused", spec := "modelRefused", inPlace := ["slices.overlaps[impost/api.KV]", "maps.clone"], unfollowed := true, recurses := true, apart := false }
def ModelRefusedSaid : Prop := modelRefusedRow.holds Try.pinned (OpenSpec.ofChange modelRefusedSpec)

/-- ITS FALSE NEIGHBOUR: 'it returns false'. Refute it at one input. -/
def modelRefusedWrong : ChangeSpec := { name := "modelRefused", fn := fun _ => fun
  | [d1, d2] => { results := [.lit (.bool false)], args := [d1, d2] }
  | _ => none }
def ModelRefusedWrongFalsely : Prop := modelRefusedRow.holds Try.pinned (OpenSpec.ofChange modelRefusedWrong)

/-- 'impostlaw08.ModelReads': WHATEVER THE INPUT: true; the input reads as it did. -/
def modelReadsSpec : ChangeSpec := { name := "modelReads", fn := fun _ => fun
  | [d1, d2, d3] => { results := [.lit (.bool true)], args := [d1, d2, d3] }
  | _ => none }
def modelReadsRow : OpenClaim := { program := "ytpfdandpmpmbiaa", sum := "778266edd6026378941c38faa217e5117311b2b8911b52b56b19c4e6207bac37", func := "impost/impostlaw08.ModelReads", spec := "modelReads", inPlace := ["slices.overlaps[impost/api.KV]", "maps.clone"], unfollowed := true, recurses := true, apart := false }
def ModelReadsSaid : Prop := modelReadsRow.holds Try.pinned (OpenSpec.ofChange modelReadsSpec)

/-- ITS FALSE NEIGHBOUR: 'it returns false'. Refute it at one input. -/
def modelReadsWrong : ChangeSpec := { name := "modelReads", fn := fun _ => fun
  | [d1, d2, d3] => { results := [.lit (.bool false)], args := [d1, d2, d3] }
  | _ => none }
def ModelReadsWrongFalsely : Prop := modelReadsRow.holds Try.pinned (OpenSpec.ofChange modelReadsWrong)

/-- 'impostlaw08.ModelNobody': WHATEVER THE INPUT: true; the input reads as it did. -/
def modelNobodySpec : ChangeSpec := { name := "modelNobody", fn := fun _ => fun
  | [d1, d2] => { results := [.lit (.bool true)], args := [d1, d2] }
  | _ => none }
def modelNobodyRow : OpenClaim := { program := "ytpfdandpmpmbiaa", sum := "778266edd6026378941c38faa217e5117311b2b8911b52b56b19c4e6207bac37", func := "impost/impostlaw08.ModelNobody", spec := "modelNobody", inPlace := ["slices.overlaps[impost/api.KV]", "maps.clone"], unfollowed := true, recurses := true, apart := false }
def ModelNobodySaid : Prop := modelNobodyRow.holds Try.pinned (OpenSpec.ofChange modelNobodySpec)

/-- ITS FALSE NEIGHBOUR: 'it returns false'. Refute it at one input. -/
def modelNobodyWrong : ChangeSpec := { name := "modelNobody", fn := fun _ => fun
  | [d1, d2] => { results := [.lit (.bool false)], args := [d1, d2] }
  | _ => none }
def ModelNobodyWrongFalsely : Prop := modelNobodyRow.holds Try.pinned (OpenSpec.ofChange modelNobodyWrong)

/-- 'impostlaw08.ModelSwaps': WHATEVER THE INPUT: true; the input reads as it did. -/
def modelSwapsSpec : ChangeSpec := { name := "modelSwaps", fn := fun _ => fun
  | [d1, d2] => { results := [.lit (.bool true)], args := [d1, d2] }
  | _ => none }
def modelSwapsRow : OpenClaim := { program := "ytpfdandpmpmbiaa", sum := "778266edd6026378941c38faa217e5117311b2b8911b52b56b19c4e6207bac37", func := "impost/impostlaw08.ModelSwaps", spec := "modelSwaps", inPlace := ["slices.overlaps[impost/api.KV]", "maps.clone"], unfollowed := true, recurses := true, apart := false }
def ModelSwapsSaid : Prop := modelSwapsRow.holds Try.pinned (OpenSpec.ofChange modelSwapsSpec)

/-- ITS FALSE NEIGHBOUR: 'it returns false'. Refute it at one input. -/
def modelSwapsWrong : ChangeSpec := { name := "modelSwaps", fn := fun _ => fun
  | [d1, d2] => { results := [.lit (.bool false)], args := [d1, d2] }
  | _ => none }
def ModelSwapsWrongFalsely : Prop := modelSwapsRow.holds Try.pinned (OpenSpec.ofChange modelSwapsWrong)

/-- 'impostlaw13.FrontModel': WHATEVER THE INPUT: true; the input reads as it did. -/
def frontModelSpec : ChangeSpec := { name := "frontModel", fn := fun _ => fun
  | [d] => { results := [.lit (.bool true)], args := [d] }
  | _ => none }
def frontModelRow : OpenClaim := { program := "ytpfdandpmpmbiaa", sum := "778266edd6026378941c38faa217e5117311b2b8911b52b56b19c4e6207bac37", func := "impost/impostlaw13.FrontModel", spec := "frontModel", inPlace := ["slices.overlaps[impost/api.KV]"], unfollowed := true, recurses := true, apart := false }
def FrontModelSaid : Prop := frontModelRow.holds Try.pinned (OpenSpec.ofChange frontModelSpec)

/-- ITS FALSE NEIGHBOUR: 'it returns false'. Refute it at one input. -/
def frontModelWrong : ChangeSpec := { name := "frontModel", fn := fun _ => fun
  | [d] => { results := [.lit (.bool false)], args := [d] }
  | _ => none }
def FrontModelWrongFalsely : Prop := frontModelRow.holds Try.pinned (OpenSpec.ofChange frontModelWrong)

/- THE SECOND FORM. 'bulk': how many values and letters a reading holds, each counted each time it is reached (what is shared counts as often as it is met; a slice's spare places count too). A statement '..UptoSaid' is the law's where the arguments, and the package variables that the reading takes, are together of bulk at most 1048576: NARROWER than '..Said'. Prove '..Said' where nothing that the law and all that it calls make is longer than what came in: it says more and counts as full. Else prove '..UptoSaid'. A law counts once. -/
mutual
def uptoBulk {H : Type} : DataW H → Nat
  | .lit (.string bytes) => bytes.length + 1
  | .lit _ => 1
  | .nil => 1
  | .ptr d => uptoBulk d + 1
  | .slice elems spare => uptoBulkAll elems + uptoBulkAll spare + 1
  | .agg parts => uptoBulkAll parts + 1
  | .iface _ d => uptoBulk d + 1
  | .map entries => uptoBulkEntries entries + 1
  | .held _ => 1
def uptoBulkAll {H : Type} : List (DataW H) → Nat
  | [] => 0
  | d :: r => uptoBulk d + uptoBulkAll r
def uptoBulkEntries {H : Type} : List (Lit × DataW H) → Nat
  | [] => 0
  | x :: r => uptoBulkEntry x + uptoBulkEntries r
def uptoBulkEntry {H : Type} : Lit × DataW H → Nat
  | (.string bytes, d) => bytes.length + uptoBulk d + 1
  | (_, d) => uptoBulk d + 1
 end
def uptoSmall : (H : Type) → List (DataW H) → Bool := fun _ ds => decide (uptoBulkAll ds ≤ 1048576)
def OpenSpec.upto (s : _root_.Go.ChangeSpec) : _root_.Go.OpenSpec := { _root_.Go.OpenSpec.ofChange s with cond := some uptoSmall }

/-- 'impostlaw06.HistStays', WHERE WHAT IT READS IS OF BULK AT MOST 1048576: true; the input reads as it did. -/
def histStaysUptoRow : OpenClaim := { program := "ytpfdandpmpmbiaa", sum := "778266edd6026378941c38faa217e5117311b2b8911b52b56b19c4e6207bac37", func := "impost/impostlaw06.HistStays", spec := "histStays", inPlace := ["slices.overlaps[impost/api.KV]"], unfollowed := true, recurses := true, apart := false, narrowed := true }
def HistStaysUptoSaid : Prop := histStaysUptoRow.holds Try.pinned (OpenSpec.upto histStaysSpec)

/-- 'impostlaw06.HistPuts', WHERE WHAT IT READS IS OF BULK AT MOST 1048576: true; the input reads as it did. -/
def histPutsUptoRow : OpenClaim := { program := "ytpfdandpmpmbiaa", sum := "778266edd6026378941c38faa217e5117311b2b8911b52b56b19c4e6207bac37", func := "impost/impostlaw06.HistPuts", spec := "histPuts", inPlace := ["slices.overlaps[impost/api.KV]"], unfollowed := true, recurses := true, apart := false, narrowed := true }
def HistPutsUptoSaid : Prop := histPutsUptoRow.holds Try.pinned (OpenSpec.upto histPutsSpec)

/-- 'impostlaw06.HistHorizon', WHERE WHAT IT READS IS OF BULK AT MOST 1048576: true; the input reads as it did. -/
def histHorizonUptoRow : OpenClaim := { program := "ytpfdandpmpmbiaa", sum := "778266edd6026378941c38faa217e5117311b2b8911b52b56b19c4e6207bac37", func := "impost/impostlaw06.HistHorizon", spec := "histHorizon", inPlace := ["slices.overlaps[impost/api.KV]"], unfollowed := true, recurses := true, apart := false, narrowed := true }
def HistHorizonUptoSaid : Prop := histHorizonUptoRow.holds Try.pinned (OpenSpec.upto histHorizonSpec)

/-- 'impostlaw06.HistCopies', WHERE WHAT IT READS IS OF BULK AT MOST 1048576: true; the input reads as it did. -/
def histCopiesUptoRow : OpenClaim := { program := "ytpfdandpmpmbiaa", sum := "778266edd6026378941c38faa217e5117311b2b8911b52b56b19c4e6207bac37", func := "impost/impostlaw06.HistCopies", spec := "histCopies", inPlace := ["slices.overlaps[impost/api.KV]", "maps.clone"], unfollowed := true, recurses := true, apart := false, narrowed := true }
def HistCopiesUptoSaid : Prop := histCopiesUptoRow.holds Try.pinned (OpenSpec.upto histCopiesSpec)

/-- 'impostlaw07.TxnChanges', WHERE WHAT IT READS IS OF BULK AT MOST 1048576: true; the input reads as it did. -/
def txnChangesUptoRow : OpenClaim := { program := "ytpfdandpmpmbiaa", sum := "778266edd6026378941c38faa217e5117311b2b8911b52b56b19c4e6207bac37", func := "impost/impostlaw07.TxnChanges", spec := "txnChanges", inPlace := ["slices.overlaps[impost/api.KV]"], unfollowed := true, recurses := true, apart := false, narrowed := true }
def TxnChangesUptoSaid : Prop := txnChangesUptoRow.holds Try.pinned (OpenSpec.upto txnChangesSpec)

/-- 'impostlaw08.ModelHeads', WHERE WHAT IT READS IS OF BULK AT MOST 1048576: true; the input reads as it did. -/
def modelHeadsUptoRow : OpenClaim := { program := "ytpfdandpmpmbiaa", sum := "778266edd6026378941c38faa217e5117311b2b8911b52b56b19c4e6207bac37", func := "impost/impostlaw08.ModelHeads", spec := "modelHeads", inPlace := ["slices.overlaps[impost/api.KV]", "maps.clone"], unfollowed := true, recurses := true, apart := false, narrowed := true }
def ModelHeadsUptoSaid : Prop := modelHeadsUptoRow.holds Try.pinned (OpenSpec.upto modelHeadsSpec)

/-- 'impostlaw08.ModelRefused', WHERE WHAT IT READS IS OF BULK AT MOST 1048576: true; the input reads as it did. -/
def modelRefusedUptoRow : OpenClaim := { program := "ytpfdandpmpmbiaa", sum := "778266edd6026378941c38faa217e5117311b2b8911b52b56b19c4e6207bac37", func := "impost/impostlaw08.ModelRefused", spec := "modelRefused", inPlace := ["slices.overlaps[impost/api.KV]", "maps.clone"], unfollowed := true, recurses := true, apart := false, narrowed := true }
def ModelRefusedUptoSaid : Prop := modelRefusedUptoRow.holds Try.pinned (OpenSpec.upto modelRefusedSpec)

/-- 'impostlaw08.ModelReads', WHERE WHAT IT READS IS OF BULK AT MOST 1048576: true; the input reads as it did. -/
def modelReadsUptoRow : OpenClaim := { program := "ytpfdandpmpmbiaa", sum := "778266edd6026378941c38faa217e5117311b2b8911b52b56b19c4e6207bac37", func := "impost/impostlaw08.ModelReads", spec := "modelReads", inPlace := ["slices.overlaps[impost/api.KV]", "maps.clone"], unfollowed := true, recurses := true, apart := false, narrowed := true }
def ModelReadsUptoSaid : Prop := modelReadsUptoRow.holds Try.pinned (OpenSpec.upto modelReadsSpec)

/-- 'impostlaw08.ModelNobody', WHERE WHAT IT READS IS OF BULK AT MOST 1048576: true; the input reads as it did. -/
def modelNobodyUptoRow : OpenClaim := { program := "ytpfdandpmpmbiaa", sum := "778266edd6026378941c38faa217e5117311b2b8911b52b56b19c4e6207bac37", func := "impost/impostlaw08.ModelNobody", spec := "modelNobody", inPlace := ["slices.overlaps[impost/api.KV]", "maps.clone"], unfollowed := true, recurses := true, apart := false, narrowed := true }
def ModelNobodyUptoSaid : Prop := modelNobodyUptoRow.holds Try.pinned (OpenSpec.upto modelNobodySpec)

/-- 'impostlaw08.ModelSwaps', WHERE WHAT IT READS IS OF BULK AT MOST 1048576: true; the input reads as it did. -/
def modelSwapsUptoRow : OpenClaim := { program := "ytpfdandpmpmbiaa", sum := "778266edd6026378941c38faa217e5117311b2b8911b52b56b19c4e6207bac37", func := "impost/impostlaw08.ModelSwaps", spec := "modelSwaps", inPlace := ["slices.overlaps[impost/api.KV]", "maps.clone"], unfollowed := true, recurses := true, apart := false, narrowed := true }
def ModelSwapsUptoSaid : Prop := modelSwapsUptoRow.holds Try.pinned (OpenSpec.upto modelSwapsSpec)

/-- 'impostlaw13.FrontModel', WHERE WHAT IT READS IS OF BULK AT MOST 1048576: true; the input reads as it did. -/
def frontModelUptoRow : OpenClaim := { program := "ytpfdandpmpmbiaa", sum := "778266edd6026378941c38faa217e5117311b2b8911b52b56b19c4e6207bac37", func := "impost/impostlaw13.FrontModel", spec := "frontModel", inPlace := ["slices.overlaps[impost/api.KV]"], unfollowed := true, recurses := true, apart := false, narrowed := true }
def FrontModelUptoSaid : Prop := frontModelUptoRow.holds Try.pinned (OpenSpec.upto frontModelSpec)

end Rows
end Go.Proofs.Ytpfdandpmpmbiaa
