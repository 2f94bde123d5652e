/-
  No cell of these rows narrows 'for every input' (looked for: loops, veiled, ifaces, maps, wideKeys, modest, calm, conditions, laid).
  DERIVED. THE GIVEN ROWS OF THIS SEAT. 6 by the template 'for every input the law returns true; each argument reads behind the call as it read before'; 0 by the template 'total and deterministic' (their statements: YtndhbaidibioeaaGreatTotals.lean).
  GIVEN WITH THE SEED: the statements are not yours to turn. If you find one false, say at which input.
  Laid BY PROGRAM, IN A SANDBOX (cutbox-rows.mjs): the forced cells as the released guide's own fill.sh prints them over the translation b8fb00114da7be75… (all of the seat's roots in one cut). By AI agents, Wed Nov 11 2026. No macro, syntax, notation, axiom, sorry.
-/
import Derived.Test.YtndhbaidibioeaaGreatChecked
import GoSem.Claim
import GoSem.ClaimJoined
import GoSem.ClaimMapViews
import Derived.JoinedTies
import Derived.KernelRfl
namespace Go.Proofs.YtndhbaidibioeaaGreat
/- THE CELL 'sum', in the pinned program and in every row, IS THE sha256 OF THE DUMP (.gsa) THAT YtndhbaidibioeaaGreatProg.lean LOADS. Nothing in Lean hashes anything: it is a label: what it is worth is what the hold of that sum in a sandbox is worth. -/
noncomputable def Tryz.pinned : Pinned := { name := "ytndhbaidibioeaagreat", sum := "b8fb00114da7be753a824a1efffbdecaf6cf7f9e7b3871ff61f9c3d24f84acf0", checked := Tryz.checked }
namespace Rows
def none {H : Type} : Left H := { results := [], args := [] }

/-- 'impostlaw19.IndexPuts': WHATEVER THE INPUT: true; the input reads as it did. -/
def indexPutsSpec : ChangeSpec := { name := "indexPuts", fn := fun _ => fun
  | [d1, d2, d3] => { results := [.lit (.bool true)], args := [d1, d2, d3] }
  | _ => none }
def indexPutsRow : OpenClaim := { program := "ytndhbaidibioeaagreat", sum := "b8fb00114da7be753a824a1efffbdecaf6cf7f9e7b3871ff61f9c3d24f84acf0", func := "impost/impostlaw19.IndexPuts", spec := "indexPuts", unfollowed := true, recurses := true, plainKeys := false, apart := false }
def IndexPutsSaid : Prop := indexPutsRow.holds Tryz.pinned (OpenSpec.ofChange indexPutsSpec)

/-- ITS FALSE NEIGHBOUR: 'it returns false'. Refute it at one input. -/
def indexPutsWrong : ChangeSpec := { name := "indexPuts", fn := fun _ => fun
  | [d1, d2, d3] => { results := [.lit (.bool false)], args := [d1, d2, d3] }
  | _ => none }
def IndexPutsWrongFalsely : Prop := indexPutsRow.holds Tryz.pinned (OpenSpec.ofChange indexPutsWrong)

/-- 'impostlaw19.IndexOnce': WHATEVER THE INPUT: true; the input reads as it did. -/
def indexOnceSpec : ChangeSpec := { name := "indexOnce", fn := fun _ => fun
  | [d1, d2, d3] => { results := [.lit (.bool true)], args := [d1, d2, d3] }
  | _ => none }
def indexOnceRow : OpenClaim := { program := "ytndhbaidibioeaagreat", sum := "b8fb00114da7be753a824a1efffbdecaf6cf7f9e7b3871ff61f9c3d24f84acf0", func := "impost/impostlaw19.IndexOnce", spec := "indexOnce", unfollowed := true, recurses := true, plainKeys := false, apart := false }
def IndexOnceSaid : Prop := indexOnceRow.holds Tryz.pinned (OpenSpec.ofChange indexOnceSpec)

/-- ITS FALSE NEIGHBOUR: 'it returns false'. Refute it at one input. -/
def indexOnceWrong : ChangeSpec := { name := "indexOnce", fn := fun _ => fun
  | [d1, d2, d3] => { results := [.lit (.bool false)], args := [d1, d2, d3] }
  | _ => none }
def IndexOnceWrongFalsely : Prop := indexOnceRow.holds Tryz.pinned (OpenSpec.ofChange indexOnceWrong)

/-- 'impostlaw19.IndexMany': WHATEVER THE INPUT: true; the input reads as it did. -/
def indexManySpec : ChangeSpec := { name := "indexMany", fn := fun _ => fun
  | [d1, d2, d3] => { results := [.lit (.bool true)], args := [d1, d2, d3] }
  | _ => none }
def indexManyRow : OpenClaim := { program := "ytndhbaidibioeaagreat", sum := "b8fb00114da7be753a824a1efffbdecaf6cf7f9e7b3871ff61f9c3d24f84acf0", func := "impost/impostlaw19.IndexMany", spec := "indexMany", unfollowed := true, recurses := true, plainKeys := false, apart := false }
def IndexManySaid : Prop := indexManyRow.holds Tryz.pinned (OpenSpec.ofChange indexManySpec)

/-- ITS FALSE NEIGHBOUR: 'it returns false'. Refute it at one input. -/
def indexManyWrong : ChangeSpec := { name := "indexMany", fn := fun _ => fun
  | [d1, d2, d3] => { results := [.lit (.bool false)], args := [d1, d2, d3] }
  | _ => none }
def IndexManyWrongFalsely : Prop := indexManyRow.holds Tryz.pinned (OpenSpec.ofChange indexManyWrong)

/-- 'impostlaw19.IndexWalks': WHATEVER THE INPUT: true; the input reads as it did. -/
def indexWalksSpec : ChangeSpec := { name := "indexWalks", fn := fun _ => fun
  | [d1, d2, d3] => { results := [.lit (.bool true)], args := [d1, d2, d3] }
  | _ => none }
def indexWalksRow : OpenClaim := { program := "ytndhbaidibioeaagreat", sum := "b8fb00114da7be753a824a1efffbdecaf6cf7f9e7b3871ff61f9c3d24f84acf0", func := "impost/impostlaw19.IndexWalks", spec := "indexWalks", unfollowed := true, recurses := true, plainKeys := false, apart := false }
def IndexWalksSaid : Prop := indexWalksRow.holds Tryz.pinned (OpenSpec.ofChange indexWalksSpec)

/-- ITS FALSE NEIGHBOUR: 'it returns false'. Refute it at one input. -/
def indexWalksWrong : ChangeSpec := { name := "indexWalks", fn := fun _ => fun
  | [d1, d2, d3] => { results := [.lit (.bool false)], args := [d1, d2, d3] }
  | _ => none }
def IndexWalksWrongFalsely : Prop := indexWalksRow.holds Tryz.pinned (OpenSpec.ofChange indexWalksWrong)

/-- 'impostlaw19.IndexSteps': WHATEVER THE INPUT: true; the input reads as it did. -/
def indexStepsSpec : ChangeSpec := { name := "indexSteps", fn := fun _ => fun
  | [d1, d2, d3] => { results := [.lit (.bool true)], args := [d1, d2, d3] }
  | _ => none }
def indexStepsRow : OpenClaim := { program := "ytndhbaidibioeaagreat", sum := "b8fb00114da7be753a824a1efffbdecaf6cf7f9e7b3871ff61f9c3d24f84acf0", func := "impost/impostlaw19.IndexSteps", spec := "indexSteps", unfollowed := true, recurses := true, plainKeys := false, apart := false }
def IndexStepsSaid : Prop := indexStepsRow.holds Tryz.pinned (OpenSpec.ofChange indexStepsSpec)

/-- ITS FALSE NEIGHBOUR: 'it returns false'. Refute it at one input. -/
def indexStepsWrong : ChangeSpec := { name := "indexSteps", fn := fun _ => fun
  | [d1, d2, d3] => { results := [.lit (.bool false)], args := [d1, d2, d3] }
  | _ => none }
def IndexStepsWrongFalsely : Prop := indexStepsRow.holds Tryz.pinned (OpenSpec.ofChange indexStepsWrong)

/-- 'impostlaw16.CrowdAlone': WHATEVER THE INPUT: true; the input reads as it did. -/
def crowdAloneSpec : ChangeSpec := { name := "crowdAlone", fn := fun _ => fun
  | [d] => { results := [.lit (.bool true)], args := [d] }
  | _ => none }
def crowdAloneRow : OpenClaim := { program := "ytndhbaidibioeaagreat", sum := "b8fb00114da7be753a824a1efffbdecaf6cf7f9e7b3871ff61f9c3d24f84acf0", func := "impost/impostlaw16.CrowdAlone", spec := "crowdAlone", unfollowed := true, recurses := true, plainKeys := false, apart := false }
def CrowdAloneSaid : Prop := crowdAloneRow.holds Tryz.pinned (OpenSpec.ofChange crowdAloneSpec)

/-- ITS FALSE NEIGHBOUR: 'it returns false'. Refute it at one input. -/
def crowdAloneWrong : ChangeSpec := { name := "crowdAlone", fn := fun _ => fun
  | [d] => { results := [.lit (.bool false)], args := [d] }
  | _ => none }
def CrowdAloneWrongFalsely : Prop := crowdAloneRow.holds Tryz.pinned (OpenSpec.ofChange crowdAloneWrong)

/- THE SECOND FORM. 'bulk': how many values and letters a reading holds, each counted each time it is reached (what is shared counts as often as it is met; a slice's spare places count too). A statement '..UptoSaid' is the law's where the arguments, and the package variables that the reading takes, are together of bulk at most 1048576: NARROWER than '..Said'. Prove '..Said' where nothing that the law and all that it calls make is longer than what came in: it says more and counts as full. Else prove '..UptoSaid'. A law counts once. -/
mutual
def uptoBulk {H : Type} : DataW H → Nat
  | .lit (.string bytes) => bytes.length + 1
  | .lit _ => 1
  | .nil => 1
  | .ptr d => uptoBulk d + 1
  | .slice elems spare => uptoBulkAll elems + uptoBulkAll spare + 1
  | .agg parts => uptoBulkAll parts + 1
  | .iface _ d => uptoBulk d + 1
  | .map entries => uptoBulkEntries entries + 1
  | .held _ => 1
def uptoBulkAll {H : Type} : List (DataW H) → Nat
  | [] => 0
  | d :: r => uptoBulk d + uptoBulkAll r
def uptoBulkEntries {H : Type} : List (Lit × DataW H) → Nat
  | [] => 0
  | x :: r => uptoBulkEntry x + uptoBulkEntries r
def uptoBulkEntry {H : Type} : Lit × DataW H → Nat
  | (.string bytes, d) => bytes.length + uptoBulk d + 1
  | (_, d) => uptoBulk d + 1
 end
def uptoSmall : (H : Type) → List (DataW H) → Bool := fun _ ds => decide (uptoBulkAll ds ≤ 1048576)
def OpenSpec.upto (s : _root_.Go.ChangeSpec) : _root_.Go.OpenSpec := { _root_.Go.OpenSpec.ofChange s with cond := some uptoSmall }

/-- 'impostlaw19.IndexPuts', WHERE WHAT IT READS IS OF BULK AT MOST 1048576: true; the input reads as it did. -/
def indexPutsUptoRow : OpenClaim := { program := "ytndhbaidibioeaagreat", sum := "b8fb00114da7be753a824a1efffbdecaf6cf7f9e7b3871ff61f9c3d24f84acf0", func := "impost/impostlaw19.IndexPuts", spec := "indexPuts", unfollowed := true, recurses := true, plainKeys := false, apart := false, narrowed := true }
def IndexPutsUptoSaid : Prop := indexPutsUptoRow.holds Tryz.pinned (OpenSpec.upto indexPutsSpec)

/-- 'impostlaw19.IndexOnce', WHERE WHAT IT READS IS OF BULK AT MOST 1048576: true; the input reads as it did. -/
def indexOnceUptoRow : OpenClaim := { program := "ytndhbaidibioeaagreat", sum := "b8fb00114da7be753a824a1efffbdecaf6cf7f9e7b3871ff61f9c3d24f84acf0", func := "impost/impostlaw19.IndexOnce", spec := "indexOnce", unfollowed := true, recurses := true, plainKeys := false, apart := false, narrowed := true }
def IndexOnceUptoSaid : Prop := indexOnceUptoRow.holds Tryz.pinned (OpenSpec.upto indexOnceSpec)

/-- 'impostlaw19.IndexMany', WHERE WHAT IT READS IS OF BULK AT MOST 1048576: true; the input reads as it did. -/
def indexManyUptoRow : OpenClaim := { program := "ytndhbaidibioeaagreat", sum := "b8fb00114da7be753a824a1efffbdecaf6cf7f9e7b3871ff61f9c3d24f84acf0", func := "impost/impostlaw19.IndexMany", spec := "indexMany", unfollowed := true, recurses := true, plainKeys := false, apart := false, narrowed := true }
def IndexManyUptoSaid : Prop := indexManyUptoRow.holds Tryz.pinned (OpenSpec.upto indexManySpec)

/-- 'impostlaw19.IndexWalks', WHERE WHAT IT READS IS OF BULK AT MOST 1048576: true; the input reads as it did. -/
def indexWalksUptoRow : OpenClaim := { program := "ytndhbaidibioeaagreat", sum := "b8fb00114da7be753a824a1efffbdecaf6cf7f9e7b3871ff61f9c3d24f84acf0", func := "impost/impostlaw19.IndexWalks", spec := "indexWalks", unfollowed := true, recurses := true, plainKeys := false, apart := false, narrowed := true }
def IndexWalksUptoSaid : Prop := indexWalksUptoRow.holds Tryz.pinned (OpenSpec.upto indexWalksSpec)

/-- 'impostlaw19.IndexSteps', WHERE WHAT IT READS IS OF BULK AT MOST 1048576: true; the input reads as it did. -/
def indexStepsUptoRow : OpenClaim := { program := "ytndhbaidibioeaagreat", sum := "b8fb00114da7be753a824a1efffbdecaf6cf7f9e7b3871ff61f9c3d24f84acf0", func := "impost/impostlaw19.IndexSteps", spec := "indexSteps", unfollowed := true, recurses := true, plainKeys := false, apart := false, narrowed := true }
def IndexStepsUptoSaid : Prop := indexStepsUptoRow.holds Tryz.pinned (OpenSpec.upto indexStepsSpec)

/-- 'impostlaw16.CrowdAlone', WHERE WHAT IT READS IS OF BULK AT MOST 1048576: true; the input reads as it did. -/
def crowdAloneUptoRow : OpenClaim := { program := "ytndhbaidibioeaagreat", sum := "b8fb00114da7be753a824a1efffbdecaf6cf7f9e7b3871ff61f9c3d24f84acf0", func := "impost/impostlaw16.CrowdAlone", spec := "crowdAlone", unfollowed := true, recurses := true, plainKeys := false, apart := false, narrowed := true }
def CrowdAloneUptoSaid : Prop := crowdAloneUptoRow.holds Tryz.pinned (OpenSpec.upto crowdAloneSpec)

end Rows
end Go.Proofs.YtndhbaidibioeaaGreat
