/-
  No cell of these rows narrows 'for every input' (looked for: loops, veiled, ifaces, maps, wideKeys, modest, calm, conditions, laid).
  DERIVED. THE GIVEN ROWS OF THIS SEAT. 8 by the template 'for every input the law returns true; each argument reads behind the call as it read before'; 0 by the template 'total and deterministic' (their statements: YtadfhabapgipbaaTotals.lean).
  GIVEN WITH THE SEED: the statements are not yours to turn. If you find one false, say at which input.
  Laid BY PROGRAM, IN A SANDBOX (cutbox-rows.mjs): the forced cells as the released guide's own fill.sh prints them over the translation 2050a2d7ae42ba89… (all of the seat's roots in one cut). By AI agents, Wed Nov 11 2026. No macro, syntax, notation, axiom, sorry.
-/
import Derived.Test.YtadfhabapgipbaaChecked
import GoSem.Claim
import GoSem.ClaimJoined
import GoSem.ClaimMapViews
import Derived.JoinedTies
import Derived.KernelRfl
namespace Go.Proofs.Ytadfhabapgipbaa
/- THE CELL 'sum', in the pinned program and in every row, IS THE sha256 OF THE DUMP (.gsa) THAT YtadfhabapgipbaaProg.lean LOADS. Nothing in Lean hashes anything: it is a label: what it is worth is what the hold of that sum in a sandbox is worth. -/
noncomputable def Try.pinned : Pinned := { name := "ytadfhabapgipbaa", sum := "2050a2d7ae42ba89c7b66051b450518ec22b77b275ab13db8a02aa2746cb3aab", checked := Try.checked }
namespace Rows
def none {H : Type} : Left H := { results := [], args := [] }

/-- 'impostlaw13.FrontSteps': WHATEVER THE INPUT: true; the input reads as it did. -/
def frontStepsSpec : ChangeSpec := { name := "frontSteps", fn := fun _ => fun
  | [d1, d2, d3] => { results := [.lit (.bool true)], args := [d1, d2, d3] }
  | _ => none }
def frontStepsRow : OpenClaim := { program := "ytadfhabapgipbaa", sum := "2050a2d7ae42ba89c7b66051b450518ec22b77b275ab13db8a02aa2746cb3aab", func := "impost/impostlaw13.FrontSteps", spec := "frontSteps", unfollowed := true, recurses := true, apart := false }
def FrontStepsSaid : Prop := frontStepsRow.holds Try.pinned (OpenSpec.ofChange frontStepsSpec)

/-- ITS FALSE NEIGHBOUR: 'it returns false'. Refute it at one input. -/
def frontStepsWrong : ChangeSpec := { name := "frontSteps", fn := fun _ => fun
  | [d1, d2, d3] => { results := [.lit (.bool false)], args := [d1, d2, d3] }
  | _ => none }
def FrontStepsWrongFalsely : Prop := frontStepsRow.holds Try.pinned (OpenSpec.ofChange frontStepsWrong)

/-- 'impostlaw13.FrontReads': WHATEVER THE INPUT: true; the input reads as it did. -/
def frontReadsSpec : ChangeSpec := { name := "frontReads", fn := fun _ => fun
  | [d1, d2, d3] => { results := [.lit (.bool true)], args := [d1, d2, d3] }
  | _ => none }
def frontReadsRow : OpenClaim := { program := "ytadfhabapgipbaa", sum := "2050a2d7ae42ba89c7b66051b450518ec22b77b275ab13db8a02aa2746cb3aab", func := "impost/impostlaw13.FrontReads", spec := "frontReads", unfollowed := true, recurses := true, apart := false }
def FrontReadsSaid : Prop := frontReadsRow.holds Try.pinned (OpenSpec.ofChange frontReadsSpec)

/-- ITS FALSE NEIGHBOUR: 'it returns false'. Refute it at one input. -/
def frontReadsWrong : ChangeSpec := { name := "frontReads", fn := fun _ => fun
  | [d1, d2, d3] => { results := [.lit (.bool false)], args := [d1, d2, d3] }
  | _ => none }
def FrontReadsWrongFalsely : Prop := frontReadsRow.holds Try.pinned (OpenSpec.ofChange frontReadsWrong)

/-- 'impostlaw13.FrontOwn': WHATEVER THE INPUT: true; the input reads as it did. -/
def frontOwnSpec : ChangeSpec := { name := "frontOwn", fn := fun _ => fun
  | [d1, d2, d3] => { results := [.lit (.bool true)], args := [d1, d2, d3] }
  | _ => none }
def frontOwnRow : OpenClaim := { program := "ytadfhabapgipbaa", sum := "2050a2d7ae42ba89c7b66051b450518ec22b77b275ab13db8a02aa2746cb3aab", func := "impost/impostlaw13.FrontOwn", spec := "frontOwn", unfollowed := true, recurses := true, apart := false }
def FrontOwnSaid : Prop := frontOwnRow.holds Try.pinned (OpenSpec.ofChange frontOwnSpec)

/-- ITS FALSE NEIGHBOUR: 'it returns false'. Refute it at one input. -/
def frontOwnWrong : ChangeSpec := { name := "frontOwn", fn := fun _ => fun
  | [d1, d2, d3] => { results := [.lit (.bool false)], args := [d1, d2, d3] }
  | _ => none }
def FrontOwnWrongFalsely : Prop := frontOwnRow.holds Try.pinned (OpenSpec.ofChange frontOwnWrong)

/-- 'impostlaw07.TxnOwn': WHATEVER THE INPUT: true; the input reads as it did. -/
def txnOwnSpec : ChangeSpec := { name := "txnOwn", fn := fun _ => fun
  | [d1, d2] => { results := [.lit (.bool true)], args := [d1, d2] }
  | _ => none }
def txnOwnRow : OpenClaim := { program := "ytadfhabapgipbaa", sum := "2050a2d7ae42ba89c7b66051b450518ec22b77b275ab13db8a02aa2746cb3aab", func := "impost/impostlaw07.TxnOwn", spec := "txnOwn", unfollowed := true, recurses := true, apart := false }
def TxnOwnSaid : Prop := txnOwnRow.holds Try.pinned (OpenSpec.ofChange txnOwnSpec)

/-- ITS FALSE NEIGHBOUR: 'it returns false'. Refute it at one input. -/
def txnOwnWrong : ChangeSpec := { name := "txnOwn", fn := fun _ => fun
  | [d1, d2] => { results := [.lit (.bool false)], args := [d1, d2] }
  | _ => none }
def TxnOwnWrongFalsely : Prop := txnOwnRow.holds Try.pinned (OpenSpec.ofChange txnOwnWrong)

/-- 'impostlaw07.TxnCompares': WHATEVER THE INPUT: true; the input reads as it did. -/
def txnComparesSpec : ChangeSpec := { name := "txnCompares", fn := fun _ => fun
  | [d1, d2, d3] => { results := [.lit (.bool true)], args := [d1, d2, d3] }
  | _ => none }
def txnComparesRow : OpenClaim := { program := "ytadfhabapgipbaa", sum := "2050a2d7ae42ba89c7b66051b450518ec22b77b275ab13db8a02aa2746cb3aab", func := "impost/impostlaw07.TxnCompares", spec := "txnCompares", unfollowed := true, recurses := true, apart := false }
def TxnComparesSaid : Prop := txnComparesRow.holds Try.pinned (OpenSpec.ofChange txnComparesSpec)

/-- ITS FALSE NEIGHBOUR: 'it returns false'. Refute it at one input. -/
def txnComparesWrong : ChangeSpec := { name := "txnCompares", fn := fun _ => fun
  | [d1, d2, d3] => { results := [.lit (.bool false)], args := [d1, d2, d3] }
  | _ => none }
def TxnComparesWrongFalsely : Prop := txnComparesRow.holds Try.pinned (OpenSpec.ofChange txnComparesWrong)

/-- 'impostlaw07.TxnRefused': WHATEVER THE INPUT: true; the input reads as it did. -/
def txnRefusedSpec : ChangeSpec := { name := "txnRefused", fn := fun _ => fun
  | [d1, d2] => { results := [.lit (.bool true)], args := [d1, d2] }
  | _ => none }
def txnRefusedRow : OpenClaim := { program := "ytadfhabapgipbaa", sum := "2050a2d7ae42ba89c7b66051b450518ec22b77b275ab13db8a02aa2746cb3aab", func := "impost/impostlaw07.TxnRefused", spec := "txnRefused", unfollowed := true, recurses := true, apart := false }
def TxnRefusedSaid : Prop := txnRefusedRow.holds Try.pinned (OpenSpec.ofChange txnRefusedSpec)

/-- ITS FALSE NEIGHBOUR: 'it returns false'. Refute it at one input. -/
def txnRefusedWrong : ChangeSpec := { name := "txnRefused", fn := fun _ => fun
  | [d1, d2] => { results := [.lit (.bool false)], args := [d1, d2] }
  | _ => none }
def TxnRefusedWrongFalsely : Prop := txnRefusedRow.holds Try.pinned (OpenSpec.ofChange txnRefusedWrong)

/-- 'impostlaw07.TxnShort': WHATEVER THE INPUT: true; the input reads as it did. -/
def txnShortSpec : ChangeSpec := { name := "txnShort", fn := fun _ => fun
  | [d1, d2, d3] => { results := [.lit (.bool true)], args := [d1, d2, d3] }
  | _ => none }
def txnShortRow : OpenClaim := { program := "ytadfhabapgipbaa", sum := "2050a2d7ae42ba89c7b66051b450518ec22b77b275ab13db8a02aa2746cb3aab", func := "impost/impostlaw07.TxnShort", spec := "txnShort", unfollowed := true, recurses := true, apart := false }
def TxnShortSaid : Prop := txnShortRow.holds Try.pinned (OpenSpec.ofChange txnShortSpec)

/-- ITS FALSE NEIGHBOUR: 'it returns false'. Refute it at one input. -/
def txnShortWrong : ChangeSpec := { name := "txnShort", fn := fun _ => fun
  | [d1, d2, d3] => { results := [.lit (.bool false)], args := [d1, d2, d3] }
  | _ => none }
def TxnShortWrongFalsely : Prop := txnShortRow.holds Try.pinned (OpenSpec.ofChange txnShortWrong)

/-- 'impostlaw07.TxnChanges': WHATEVER THE INPUT: true; the input reads as it did. -/
def txnChangesSpec : ChangeSpec := { name := "txnChanges", fn := fun _ => fun
  | [d1, d2] => { results := [.lit (.bool true)], args := [d1, d2] }
  | _ => none }
def txnChangesRow : OpenClaim := { program := "ytadfhabapgipbaa", sum := "2050a2d7ae42ba89c7b66051b450518ec22b77b275ab13db8a02aa2746cb3aab", func := "impost/impostlaw07.TxnChanges", spec := "txnChanges", inPlace := ["slices.overlaps[impost/api.KV]"], unfollowed := true, recurses := true, apart := false }
def TxnChangesSaid : Prop := txnChangesRow.holds Try.pinned (OpenSpec.ofChange txnChangesSpec)

/-- ITS FALSE NEIGHBOUR: 'it returns false'. Refute it at one input. -/
def txnChangesWrong : ChangeSpec := { name := "txnChanges", fn := fun _ => fun
  | [d1, d2] => { results := [.lit (.bool false)], args := [d1, d2] }
  | _ => none }
def TxnChangesWrongFalsely : Prop := txnChangesRow.holds Try.pinned (OpenSpec.ofChange txnChangesWrong)

/- THE SECOND FORM. 'bulk': how many values and letters a reading holds, each counted each time it is reached (what is shared counts as often as it is met; a slice's spare places count too). A statement '..UptoSaid' is the law's where the arguments, and the package variables that the reading takes, are together of bulk at most 1048576: NARROWER than '..Said'. Prove '..Said' where nothing that the law and all that it calls make is longer than what came in: it says more and counts as full. Else prove '..UptoSaid'. A law counts once. -/
mutual
def uptoBulk {H : Type} : DataW H → Nat
  | .lit (.string bytes) => bytes.length + 1
  | .lit _ => 1
  | .nil => 1
  | .ptr d => uptoBulk d + 1
  | .slice elems spare => uptoBulkAll elems + uptoBulkAll spare + 1
  | .agg parts => uptoBulkAll parts + 1
  | .iface _ d => uptoBulk d + 1
  | .map entries => uptoBulkEntries entries + 1
  | .held _ => 1
def uptoBulkAll {H : Type} : List (DataW H) → Nat
  | [] => 0
  | d :: r => uptoBulk d + uptoBulkAll r
def uptoBulkEntries {H : Type} : List (Lit × DataW H) → Nat
  | [] => 0
  | x :: r => uptoBulkEntry x + uptoBulkEntries r
def uptoBulkEntry {H : Type} : Lit × DataW H → Nat
  | (.string bytes, d) => bytes.length + uptoBulk d + 1
  | (_, d) => uptoBulk d + 1
 end
def uptoSmall : (H : Type) → List (DataW H) → Bool := fun _ ds => decide (uptoBulkAll ds ≤ 1048576)
def OpenSpec.upto (s : _root_.Go.ChangeSpec) : _root_.Go.OpenSpec := { _root_.Go.OpenSpec.ofChange s with cond := some uptoSmall }

/-- 'impostlaw13.FrontSteps', WHERE WHAT IT READS IS OF BULK AT MOST 1048576: true; the input reads as it did. -/
def frontStepsUptoRow : OpenClaim := { program := "ytadfhabapgipbaa", sum := "2050a2d7ae42ba89c7b66051b450518ec22b77b275ab13db8a02aa2746cb3aab", func := "impost/impostlaw13.FrontSteps", spec := "frontSteps", unfollowed := true, recurses := true, apart := false, narrowed := true }
def FrontStepsUptoSaid : Prop := frontStepsUptoRow.holds Try.pinned (OpenSpec.upto frontStepsSpec)

/-- 'impostlaw13.FrontReads', WHERE WHAT IT READS IS OF BULK AT MOST 1048576: true; the input reads as it did. -/
def frontReadsUptoRow : OpenClaim := { program := "ytadfhabapgipbaa", sum := "2050a2d7ae42ba89c7b66051b450518ec22b77b275ab13db8a02aa2746cb3aab", func := "impost/impostlaw13.FrontReads", spec := "frontReads", unfollowed := true, recurses := true, apart := false, narrowed := true }
def FrontReadsUptoSaid : Prop := frontReadsUptoRow.holds Try.pinned (OpenSpec.upto frontReadsSpec)

/-- 'impostlaw13.FrontOwn', WHERE WHAT IT READS IS OF BULK AT MOST 1048576: true; the input reads as it did. -/
def frontOwnUptoRow : OpenClaim := { program := "ytadfhabapgipbaa", sum := "2050a2d7ae42ba89c7b66051b450518ec22b77b275ab13db8a02aa2746cb3aab", func := "impost/impostlaw13.FrontOwn", spec := "frontOwn", unfollowed := true, recurses := true, apart := false, narrowed := true }
def FrontOwnUptoSaid : Prop := frontOwnUptoRow.holds Try.pinned (OpenSpec.upto frontOwnSpec)

/-- 'impostlaw07.TxnOwn', WHERE WHAT IT READS IS OF BULK AT MOST 1048576: true; the input reads as it did. -/
def txnOwnUptoRow : OpenClaim := { program := "ytadfhabapgipbaa", sum := "2050a2d7ae42ba89c7b66051b450518ec22b77b275ab13db8a02aa2746cb3aab", func := "impost/impostlaw07.TxnOwn", spec := "txnOwn", unfollowed := true, recurses := true, apart := false, narrowed := true }
def TxnOwnUptoSaid : Prop := txnOwnUptoRow.holds Try.pinned (OpenSpec.upto txnOwnSpec)

/-- 'impostlaw07.TxnCompares', WHERE WHAT IT READS IS OF BULK AT MOST 1048576: true; the input reads as it did. -/
def txnComparesUptoRow : OpenClaim := { program := "ytadfhabapgipbaa", sum := "2050a2d7ae42ba89c7b66051b450518ec22b77b275ab13db8a02aa2746cb3aab", func := "impost/impostlaw07.TxnCompares", spec := "txnCompares", unfollowed := true, recurses := true, apart := false, narrowed := true }
def TxnComparesUptoSaid : Prop := txnComparesUptoRow.holds Try.pinned (OpenSpec.upto txnComparesSpec)

/-- 'impostlaw07.TxnRefused', WHERE WHAT IT READS IS OF BULK AT MOST 1048576: true; the input reads as it did. -/
def txnRefusedUptoRow : OpenClaim := { program := "ytadfhabapgipbaa", sum := "2050a2d7ae42ba89c7b66051b450518ec22b77b275ab13db8a02aa2746cb3aab", func := "impost/impostlaw07.TxnRefused", spec := "txnRefused", unfollowed := true, recurses := true, apart := false, narrowed := true }
def TxnRefusedUptoSaid : Prop := txnRefusedUptoRow.holds Try.pinned (OpenSpec.upto txnRefusedSpec)

/-- 'impostlaw07.TxnShort', WHERE WHAT IT READS IS OF BULK AT MOST 1048576: true; the input reads as it did. -/
def txnShortUptoRow : OpenClaim := { program := "ytadfhabapgipbaa", sum := "2050a2d7ae42ba89c7b66051b450518ec22b77b275ab13db8a02aa2746cb3aab", func := "impost/impostlaw07.TxnShort", spec := "txnShort", unfollowed := true, recurses := true, apart := false, narrowed := true }
def TxnShortUptoSaid : Prop := txnShortUptoRow.holds Try.pinned (OpenSpec.upto txnShortSpec)

/-- 'impostlaw07.TxnChanges', WHERE WHAT IT READS IS OF BULK AT MOST 1048576: true; the input reads as it did. -/
def txnChangesUptoRow : OpenClaim := { program := "ytadfhabapgipbaa", sum := "2050a2d7ae42ba89c7b66051b450518ec22b77b275ab13db8a02aa2746cb3aab", func := "impost/impostlaw07.TxnChanges", spec := "txnChanges", inPlace := ["slices.overlaps[impost/api.KV]"], unfollowed := true, recurses := true, apart := false, narrowed := true }
def TxnChangesUptoSaid : Prop := txnChangesUptoRow.holds Try.pinned (OpenSpec.upto txnChangesSpec)

end Rows
end Go.Proofs.Ytadfhabapgipbaa
