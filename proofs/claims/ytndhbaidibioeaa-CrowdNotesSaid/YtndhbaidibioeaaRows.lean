/-
  No cell of these rows narrows 'for every input' (looked for: loops, veiled, ifaces, maps, wideKeys, modest, calm, conditions, laid).
  DERIVED. THE GIVEN ROWS OF THIS SEAT. 6 by the template 'for every input the law returns true; each argument reads behind the call as it read before'; 0 by the template 'total and deterministic' (their statements: YtndhbaidibioeaaTotals.lean).
  GIVEN WITH THE SEED: the statements are not yours to turn. If you find one false, say at which input.
  Laid BY PROGRAM, IN A SANDBOX (cutbox-rows.mjs): the forced cells as the released guide's own fill.sh prints them over the translation 3e1d4cb1e0e071e1… (all of the seat's roots in one cut). By AI agents, Wed Nov 11 2026. No macro, syntax, notation, axiom, sorry.
-/
import Derived.Test.YtndhbaidibioeaaChecked
import GoSem.Claim
import GoSem.ClaimJoined
import GoSem.ClaimMapViews
import Derived.JoinedTies
import Derived.KernelRfl
namespace Go.Proofs.Ytndhbaidibioeaa
/- THE CELL 'sum', in the pinned program and in every row, IS THE sha256 OF THE DUMP (.gsa) THAT YtndhbaidibioeaaProg.lean LOADS. Nothing in Lean hashes anything: it is a label: what it is worth is what the hold of that sum in a sandbox is worth. -/
noncomputable def Try.pinned : Pinned := { name := "ytndhbaidibioeaa", sum := "3e1d4cb1e0e071e1911f48d93c00fc80d8e8eae9ce6320afe522a09ddfe3c4cb", checked := Try.checked }
namespace Rows
def none {H : Type} : Left H := { results := [], args := [] }

/-- 'impostlaw15.BstRuns': WHATEVER THE INPUT: true; the input reads as it did. -/
def bstRunsSpec : ChangeSpec := { name := "bstRuns", fn := fun _ => fun
  | [d] => { results := [.lit (.bool true)], args := [d] }
  | _ => none }
def bstRunsRow : OpenClaim := { program := "ytndhbaidibioeaa", sum := "3e1d4cb1e0e071e1911f48d93c00fc80d8e8eae9ce6320afe522a09ddfe3c4cb", func := "impost/impostlaw15.BstRuns", spec := "bstRuns", unfollowed := true, recurses := true, plainKeys := false, apart := false }
def BstRunsSaid : Prop := bstRunsRow.holds Try.pinned (OpenSpec.ofChange bstRunsSpec)

/-- ITS FALSE NEIGHBOUR: 'it returns false'. Refute it at one input. -/
def bstRunsWrong : ChangeSpec := { name := "bstRuns", fn := fun _ => fun
  | [d] => { results := [.lit (.bool false)], args := [d] }
  | _ => none }
def BstRunsWrongFalsely : Prop := bstRunsRow.holds Try.pinned (OpenSpec.ofChange bstRunsWrong)

/-- 'impostlaw15.BstSeek': WHATEVER THE INPUT: true; the input reads as it did. -/
def bstSeekSpec : ChangeSpec := { name := "bstSeek", fn := fun _ => fun
  | [d1, d2, d3] => { results := [.lit (.bool true)], args := [d1, d2, d3] }
  | _ => none }
def bstSeekRow : OpenClaim := { program := "ytndhbaidibioeaa", sum := "3e1d4cb1e0e071e1911f48d93c00fc80d8e8eae9ce6320afe522a09ddfe3c4cb", func := "impost/impostlaw15.BstSeek", spec := "bstSeek", unfollowed := true, recurses := true, plainKeys := false, apart := false }
def BstSeekSaid : Prop := bstSeekRow.holds Try.pinned (OpenSpec.ofChange bstSeekSpec)

/-- ITS FALSE NEIGHBOUR: 'it returns false'. Refute it at one input. -/
def bstSeekWrong : ChangeSpec := { name := "bstSeek", fn := fun _ => fun
  | [d1, d2, d3] => { results := [.lit (.bool false)], args := [d1, d2, d3] }
  | _ => none }
def BstSeekWrongFalsely : Prop := bstSeekRow.holds Try.pinned (OpenSpec.ofChange bstSeekWrong)

/-- 'impostlaw15.BstSteps': WHATEVER THE INPUT: true; the input reads as it did. -/
def bstStepsSpec : ChangeSpec := { name := "bstSteps", fn := fun _ => fun
  | [d1, d2, d3] => { results := [.lit (.bool true)], args := [d1, d2, d3] }
  | _ => none }
def bstStepsRow : OpenClaim := { program := "ytndhbaidibioeaa", sum := "3e1d4cb1e0e071e1911f48d93c00fc80d8e8eae9ce6320afe522a09ddfe3c4cb", func := "impost/impostlaw15.BstSteps", spec := "bstSteps", unfollowed := true, recurses := true, plainKeys := false, apart := false }
def BstStepsSaid : Prop := bstStepsRow.holds Try.pinned (OpenSpec.ofChange bstStepsSpec)

/-- ITS FALSE NEIGHBOUR: 'it returns false'. Refute it at one input. -/
def bstStepsWrong : ChangeSpec := { name := "bstSteps", fn := fun _ => fun
  | [d1, d2, d3] => { results := [.lit (.bool false)], args := [d1, d2, d3] }
  | _ => none }
def BstStepsWrongFalsely : Prop := bstStepsRow.holds Try.pinned (OpenSpec.ofChange bstStepsWrong)

/-- 'impostlaw16.CrowdNobody': WHATEVER THE INPUT: true; the input reads as it did. -/
def crowdNobodySpec : ChangeSpec := { name := "crowdNobody", fn := fun _ => fun
  | [d1, d2] => { results := [.lit (.bool true)], args := [d1, d2] }
  | _ => none }
def crowdNobodyRow : OpenClaim := { program := "ytndhbaidibioeaa", sum := "3e1d4cb1e0e071e1911f48d93c00fc80d8e8eae9ce6320afe522a09ddfe3c4cb", func := "impost/impostlaw16.CrowdNobody", spec := "crowdNobody", unfollowed := true, recurses := true, plainKeys := false, apart := false }
def CrowdNobodySaid : Prop := crowdNobodyRow.holds Try.pinned (OpenSpec.ofChange crowdNobodySpec)

/-- ITS FALSE NEIGHBOUR: 'it returns false'. Refute it at one input. -/
def crowdNobodyWrong : ChangeSpec := { name := "crowdNobody", fn := fun _ => fun
  | [d1, d2] => { results := [.lit (.bool false)], args := [d1, d2] }
  | _ => none }
def CrowdNobodyWrongFalsely : Prop := crowdNobodyRow.holds Try.pinned (OpenSpec.ofChange crowdNobodyWrong)

/-- 'impostlaw16.CrowdFits': WHATEVER THE INPUT: true; the input reads as it did. -/
def crowdFitsSpec : ChangeSpec := { name := "crowdFits", fn := fun _ => fun
  | [d1, d2] => { results := [.lit (.bool true)], args := [d1, d2] }
  | _ => none }
def crowdFitsRow : OpenClaim := { program := "ytndhbaidibioeaa", sum := "3e1d4cb1e0e071e1911f48d93c00fc80d8e8eae9ce6320afe522a09ddfe3c4cb", func := "impost/impostlaw16.CrowdFits", spec := "crowdFits", unfollowed := true, recurses := true, plainKeys := false, apart := false }
def CrowdFitsSaid : Prop := crowdFitsRow.holds Try.pinned (OpenSpec.ofChange crowdFitsSpec)

/-- ITS FALSE NEIGHBOUR: 'it returns false'. Refute it at one input. -/
def crowdFitsWrong : ChangeSpec := { name := "crowdFits", fn := fun _ => fun
  | [d1, d2] => { results := [.lit (.bool false)], args := [d1, d2] }
  | _ => none }
def CrowdFitsWrongFalsely : Prop := crowdFitsRow.holds Try.pinned (OpenSpec.ofChange crowdFitsWrong)

/-- 'impostlaw16.CrowdNotes': WHATEVER THE INPUT: true; the input reads as it did. -/
def crowdNotesSpec : ChangeSpec := { name := "crowdNotes", fn := fun _ => fun
  | [d] => { results := [.lit (.bool true)], args := [d] }
  | _ => none }
def crowdNotesRow : OpenClaim := { program := "ytndhbaidibioeaa", sum := "3e1d4cb1e0e071e1911f48d93c00fc80d8e8eae9ce6320afe522a09ddfe3c4cb", func := "impost/impostlaw16.CrowdNotes", spec := "crowdNotes", unfollowed := true, recurses := true, plainKeys := false, apart := false }
def CrowdNotesSaid : Prop := crowdNotesRow.holds Try.pinned (OpenSpec.ofChange crowdNotesSpec)

/-- ITS FALSE NEIGHBOUR: 'it returns false'. Refute it at one input. -/
def crowdNotesWrong : ChangeSpec := { name := "crowdNotes", fn := fun _ => fun
  | [d] => { results := [.lit (.bool false)], args := [d] }
  | _ => none }
def CrowdNotesWrongFalsely : Prop := crowdNotesRow.holds Try.pinned (OpenSpec.ofChange crowdNotesWrong)

/- THE SECOND FORM. 'bulk': how many values and letters a reading holds, each counted each time it is reached (what is shared counts as often as it is met; a slice's spare places count too). A statement '..UptoSaid' is the law's where the arguments, and the package variables that the reading takes, are together of bulk at most 1048576: NARROWER than '..Said'. Prove '..Said' where nothing that the law and all that it calls make is longer than what came in: it says more and counts as full. Else prove '..UptoSaid'. A law counts once. -/
mutual
def uptoBulk {H : Type} : DataW H → Nat
  | .lit (.string bytes) => bytes.length + 1
  | .lit _ => 1
  | .nil => 1
  | .ptr d => uptoBulk d + 1
  | .slice elems spare => uptoBulkAll elems + uptoBulkAll spare + 1
  | .agg parts => uptoBulkAll parts + 1
  | .iface _ d => uptoBulk d + 1
  | .map entries => uptoBulkEntries entries + 1
  | .held _ => 1
def uptoBulkAll {H : Type} : List (DataW H) → Nat
  | [] => 0
  | d :: r => uptoBulk d + uptoBulkAll r
def uptoBulkEntries {H : Type} : List (Lit × DataW H) → Nat
  | [] => 0
  | x :: r => uptoBulkEntry x + uptoBulkEntries r
def uptoBulkEntry {H : Type} : Lit × DataW H → Nat
  | (.string bytes, d) => bytes.length + uptoBulk d + 1
  | (_, d) => uptoBulk d + 1
 end
def uptoSmall : (H : Type) → List (DataW H) → Bool := fun _ ds => decide (uptoBulkAll ds ≤ 1048576)
def OpenSpec.upto (s : _root_.Go.ChangeSpec) : _root_.Go.OpenSpec := { _root_.Go.OpenSpec.ofChange s with cond := some uptoSmall }

/-- 'impostlaw15.BstRuns', WHERE WHAT IT READS IS OF BULK AT MOST 1048576: true; the input reads as it did. -/
def bstRunsUptoRow : OpenClaim := { program := "ytndhbaidibioeaa", sum := "3e1d4cb1e0e071e1911f48d93c00fc80d8e8eae9ce6320afe522a09ddfe3c4cb", func := "impost/impostlaw15.BstRuns", spec := "bstRuns", unfollowed := true, recurses := true, plainKeys := false, apart := false, narrowed := true }
def BstRunsUptoSaid : Prop := bstRunsUptoRow.holds Try.pinned (OpenSpec.upto bstRunsSpec)

/-- 'impostlaw15.BstSeek', WHERE WHAT IT READS IS OF BULK AT MOST 1048576: true; the input reads as it did. -/
def bstSeekUptoRow : OpenClaim := { program := "ytndhbaidibioeaa", sum := "3e1d4cb1e0e071e1911f48d93c00fc80d8e8eae9ce6320afe522a09ddfe3c4cb", func := "impost/impostlaw15.BstSeek", spec := "bstSeek", unfollowed := true, recurses := true, plainKeys := false, apart := false, narrowed := true }
def BstSeekUptoSaid : Prop := bstSeekUptoRow.holds Try.pinned (OpenSpec.upto bstSeekSpec)

/-- 'impostlaw15.BstSteps', WHERE WHAT IT READS IS OF BULK AT MOST 1048576: true; the input reads as it did. -/
def bstStepsUptoRow : OpenClaim := { program := "ytndhbaidibioeaa", sum := "3e1d4cb1e0e071e1911f48d93c00fc80d8e8eae9ce6320afe522a09ddfe3c4cb", func := "impost/impostlaw15.BstSteps", spec := "bstSteps", unfollowed := true, recurses := true, plainKeys := false, apart := false, narrowed := true }
def BstStepsUptoSaid : Prop := bstStepsUptoRow.holds Try.pinned (OpenSpec.upto bstStepsSpec)

/-- 'impostlaw16.CrowdNobody', WHERE WHAT IT READS IS OF BULK AT MOST 1048576: true; the input reads as it did. -/
def crowdNobodyUptoRow : OpenClaim := { program := "ytndhbaidibioeaa", sum := "3e1d4cb1e0e071e1911f48d93c00fc80d8e8eae9ce6320afe522a09ddfe3c4cb", func := "impost/impostlaw16.CrowdNobody", spec := "crowdNobody", unfollowed := true, recurses := true, plainKeys := false, apart := false, narrowed := true }
def CrowdNobodyUptoSaid : Prop := crowdNobodyUptoRow.holds Try.pinned (OpenSpec.upto crowdNobodySpec)

/-- 'impostlaw16.CrowdFits', WHERE WHAT IT READS IS OF BULK AT MOST 1048576: true; the input reads as it did. -/
def crowdFitsUptoRow : OpenClaim := { program := "ytndhbaidibioeaa", sum := "3e1d4cb1e0e071e1911f48d93c00fc80d8e8eae9ce6320afe522a09ddfe3c4cb", func := "impost/impostlaw16.CrowdFits", spec := "crowdFits", unfollowed := true, recurses := true, plainKeys := false, apart := false, narrowed := true }
def CrowdFitsUptoSaid : Prop := crowdFitsUptoRow.holds Try.pinned (OpenSpec.upto crowdFitsSpec)

/-- 'impostlaw16.CrowdNotes', WHERE WHAT IT READS IS OF BULK AT MOST 1048576: true; the input reads as it did. -/
def crowdNotesUptoRow : OpenClaim := { program := "ytndhbaidibioeaa", sum := "3e1d4cb1e0e071e1911f48d93c00fc80d8e8eae9ce6320afe522a09ddfe3c4cb", func := "impost/impostlaw16.CrowdNotes", spec := "crowdNotes", unfollowed := true, recurses := true, plainKeys := false, apart := false, narrowed := true }
def CrowdNotesUptoSaid : Prop := crowdNotesUptoRow.holds Try.pinned (OpenSpec.upto crowdNotesSpec)

end Rows
end Go.Proofs.Ytndhbaidibioeaa
