/-
  No cell of these rows narrows 'for every input' (looked for: loops, veiled, ifaces, maps, wideKeys, modest, calm, conditions, laid).
  DERIVED. THE GIVEN ROWS OF THIS SEAT. 6 by the template 'for every input the law returns true; each argument reads behind the call as it read before'; 0 by the template 'total and deterministic' (their statements: YthgcmcifhhkebaaTotals.lean).
  GIVEN WITH THE SEED: the statements are not yours to turn. If you find one false, say at which input.
  Laid BY PROGRAM, IN A SANDBOX (cutbox-rows.mjs): the forced cells as the released guide's own fill.sh prints them over the translation 69ae25d8a2c08c46… (all of the seat's roots in one cut). By AI agents, Wed Nov 11 2026. No macro, syntax, notation, axiom, sorry.
-/
import Derived.Test.YthgcmcifhhkebaaChecked
import GoSem.Claim
import GoSem.ClaimJoined
import GoSem.ClaimMapViews
import Derived.JoinedTies
import Derived.KernelRfl
namespace Go.Proofs.Ythgcmcifhhkebaa
/- THE CELL 'sum', in the pinned program and in every row, IS THE sha256 OF THE DUMP (.gsa) THAT YthgcmcifhhkebaaProg.lean LOADS. Nothing in Lean hashes anything: it is a label: what it is worth is what the hold of that sum in a sandbox is worth. -/
noncomputable def Try.pinned : Pinned := { name := "ythgcmcifhhkebaa", sum := "69ae25d8a2c08c46fcd8c02949c3a630afc1e2175de30f754228f412147c2e65", checked := Try.checked }
namespace Rows
def none {H : Type} : Left H := { results := [], args := [] }

/-- 'impostlaw11.SubidxTurns': WHATEVER THE INPUT: true; the input reads as it did. -/
def subidxTurnsSpec : ChangeSpec := { name := "subidxTurns", fn := fun _ => fun
  | [d1, d2, d3] => { results := [.lit (.bool true)], args := [d1, d2, d3] }
  | _ => none }
def subidxTurnsRow : OpenClaim := { program := "ythgcmcifhhkebaa", sum := "69ae25d8a2c08c46fcd8c02949c3a630afc1e2175de30f754228f412147c2e65", func := "impost/impostlaw11.SubidxTurns", spec := "subidxTurns", inPlace := ["slices.overlaps[impost/subidx.node]"], unfollowed := true, recurses := true, apart := false }
def SubidxTurnsSaid : Prop := subidxTurnsRow.holds Try.pinned (OpenSpec.ofChange subidxTurnsSpec)

/-- ITS FALSE NEIGHBOUR: 'it returns false'. Refute it at one input. -/
def subidxTurnsWrong : ChangeSpec := { name := "subidxTurns", fn := fun _ => fun
  | [d1, d2, d3] => { results := [.lit (.bool false)], args := [d1, d2, d3] }
  | _ => none }
def SubidxTurnsWrongFalsely : Prop := subidxTurnsRow.holds Try.pinned (OpenSpec.ofChange subidxTurnsWrong)

/-- 'impostlaw11.SubidxPlays': WHATEVER THE INPUT: true; the input reads as it did. -/
def subidxPlaysSpec : ChangeSpec := { name := "subidxPlays", fn := fun _ => fun
  | [d1, d2, d3] => { results := [.lit (.bool true)], args := [d1, d2, d3] }
  | _ => none }
def subidxPlaysRow : OpenClaim := { program := "ythgcmcifhhkebaa", sum := "69ae25d8a2c08c46fcd8c02949c3a630afc1e2175de30f754228f412147c2e65", func := "impost/impostlaw11.SubidxPlays", spec := "subidxPlays", inPlace := ["slices.overlaps[impost/subidx.node]"], unfollowed := true, recurses := true, apart := false }
def SubidxPlaysSaid : Prop := subidxPlaysRow.holds Try.pinned (OpenSpec.ofChange subidxPlaysSpec)

/-- ITS FALSE NEIGHBOUR: 'it returns false'. Refute it at one input. -/
def subidxPlaysWrong : ChangeSpec := { name := "subidxPlays", fn := fun _ => fun
  | [d1, d2, d3] => { results := [.lit (.bool false)], args := [d1, d2, d3] }
  | _ => none }
def SubidxPlaysWrongFalsely : Prop := subidxPlaysRow.holds Try.pinned (OpenSpec.ofChange subidxPlaysWrong)

/-- 'impostlaw11.SubidxStabs': WHATEVER THE INPUT: true; the input reads as it did. -/
def subidxStabsSpec : ChangeSpec := { name := "subidxStabs", fn := fun _ => fun
  | [d1, d2, d3] => { results := [.lit (.bool true)], args := [d1, d2, d3] }
  | _ => none }
def subidxStabsRow : OpenClaim := { program := "ythgcmcifhhkebaa", sum := "69ae25d8a2c08c46fcd8c02949c3a630afc1e2175de30f754228f412147c2e65", func := "impost/impostlaw11.SubidxStabs", spec := "subidxStabs", inPlace := ["slices.overlaps[impost/subidx.node]"], unfollowed := true, recurses := true, apart := false }
def SubidxStabsSaid : Prop := subidxStabsRow.holds Try.pinned (OpenSpec.ofChange subidxStabsSpec)

/-- ITS FALSE NEIGHBOUR: 'it returns false'. Refute it at one input. -/
def subidxStabsWrong : ChangeSpec := { name := "subidxStabs", fn := fun _ => fun
  | [d1, d2, d3] => { results := [.lit (.bool false)], args := [d1, d2, d3] }
  | _ => none }
def SubidxStabsWrongFalsely : Prop := subidxStabsRow.holds Try.pinned (OpenSpec.ofChange subidxStabsWrong)

/-- 'impostlaw11.SubidxGoes': WHATEVER THE INPUT: true; the input reads as it did. -/
def subidxGoesSpec : ChangeSpec := { name := "subidxGoes", fn := fun _ => fun
  | [d1, d2, d3] => { results := [.lit (.bool true)], args := [d1, d2, d3] }
  | _ => none }
def subidxGoesRow : OpenClaim := { program := "ythgcmcifhhkebaa", sum := "69ae25d8a2c08c46fcd8c02949c3a630afc1e2175de30f754228f412147c2e65", func := "impost/impostlaw11.SubidxGoes", spec := "subidxGoes", inPlace := ["slices.overlaps[impost/subidx.node]"], unfollowed := true, recurses := true, apart := false }
def SubidxGoesSaid : Prop := subidxGoesRow.holds Try.pinned (OpenSpec.ofChange subidxGoesSpec)

/-- ITS FALSE NEIGHBOUR: 'it returns false'. Refute it at one input. -/
def subidxGoesWrong : ChangeSpec := { name := "subidxGoes", fn := fun _ => fun
  | [d1, d2, d3] => { results := [.lit (.bool false)], args := [d1, d2, d3] }
  | _ => none }
def SubidxGoesWrongFalsely : Prop := subidxGoesRow.holds Try.pinned (OpenSpec.ofChange subidxGoesWrong)

/-- 'impostlaw11.SubidxMore': WHATEVER THE INPUT: true; the input reads as it did. -/
def subidxMoreSpec : ChangeSpec := { name := "subidxMore", fn := fun _ => fun
  | [d1, d2, d3] => { results := [.lit (.bool true)], args := [d1, d2, d3] }
  | _ => none }
def subidxMoreRow : OpenClaim := { program := "ythgcmcifhhkebaa", sum := "69ae25d8a2c08c46fcd8c02949c3a630afc1e2175de30f754228f412147c2e65", func := "impost/impostlaw11.SubidxMore", spec := "subidxMore", inPlace := ["slices.overlaps[impost/subidx.node]"], unfollowed := true, recurses := true, apart := false }
def SubidxMoreSaid : Prop := subidxMoreRow.holds Try.pinned (OpenSpec.ofChange subidxMoreSpec)

/-- ITS FALSE NEIGHBOUR: 'it returns false'. Refute it at one input. -/
def subidxMoreWrong : ChangeSpec := { name := "subidxMore", fn := fun _ => fun
  | [d1, d2, d3] => { results := [.lit (.bool false)], args := [d1, d2, d3] }
  | _ => none }
def SubidxMoreWrongFalsely : Prop := subidxMoreRow.holds Try.pinned (OpenSpec.ofChange subidxMoreWrong)

/-- 'impostlaw11.SubidxNobody': WHATEVER THE INPUT: true; the input reads as it did. -/
def subidxNobodySpec : ChangeSpec := { name := "subidxNobody", fn := fun _ => fun
  | [d1, d2] => { results := [.lit (.bool true)], args := [d1, d2] }
  | _ => none }
def subidxNobodyRow : OpenClaim := { program := "ythgcmcifhhkebaa", sum := "69ae25d8a2c08c46fcd8c02949c3a630afc1e2175de30f754228f412147c2e65", func := "impost/impostlaw11.SubidxNobody", spec := "subidxNobody", inPlace := ["slices.overlaps[impost/subidx.node]"], unfollowed := true, recurses := true, apart := false }
def SubidxNobodySaid : Prop := subidxNobodyRow.holds Try.pinned (OpenSpec.ofChange subidxNobodySpec)

/-- ITS FALSE NEIGHBOUR: 'it returns false'. Refute it at one input. -/
def subidxNobodyWrong : ChangeSpec := { name := "subidxNobody", fn := fun _ => fun
  | [d1, d2] => { results := [.lit (.bool false)], args := [d1, d2] }
  | _ => none }
def SubidxNobodyWrongFalsely : Prop := subidxNobodyRow.holds Try.pinned (OpenSpec.ofChange subidxNobodyWrong)

/- THE SECOND FORM. 'bulk': how many values and letters a reading holds, each counted each time it is reached (what is shared counts as often as it is met; a slice's spare places count too). A statement '..UptoSaid' is the law's where the arguments, and the package variables that the reading takes, are together of bulk at most 1048576: NARROWER than '..Said'. Prove '..Said' where nothing that the law and all that it calls make is longer than what came in: it says more and counts as full. Else prove '..UptoSaid'. A law counts once. -/
mutual
def uptoBulk {H : Type} : DataW H → Nat
  | .lit (.string bytes) => bytes.length + 1
  | .lit _ => 1
  | .nil => 1
  | .ptr d => uptoBulk d + 1
  | .slice elems spare => uptoBulkAll elems + uptoBulkAll spare + 1
  | .agg parts => uptoBulkAll parts + 1
  | .iface _ d => uptoBulk d + 1
  | .map entries => uptoBulkEntries entries + 1
  | .held _ => 1
def uptoBulkAll {H : Type} : List (DataW H) → Nat
  | [] => 0
  | d :: r => uptoBulk d + uptoBulkAll r
def uptoBulkEntries {H : Type} : List (Lit × DataW H) → Nat
  | [] => 0
  | x :: r => uptoBulkEntry x + uptoBulkEntries r
def uptoBulkEntry {H : Type} : Lit × DataW H → Nat
  | (.string bytes, d) => bytes.length + uptoBulk d + 1
  | (_, d) => uptoBulk d + 1
 end
def uptoSmall : (H : Type) → List (DataW H) → Bool := fun _ ds => decide (uptoBulkAll ds ≤ 1048576)
def OpenSpec.upto (s : _root_.Go.ChangeSpec) : _root_.Go.OpenSpec := { _root_.Go.OpenSpec.ofChange s with cond := some uptoSmall }

/-- 'impostlaw11.SubidxTurns', WHERE WHAT IT READS IS OF BULK AT MOST 1048576: true; the input reads as it did. -/
def subidxTurnsUptoRow : OpenClaim := { program := "ythgcmcifhhkebaa", sum := "69ae25d8a2c08c46fcd8c02949c3a630afc1e2175de30f754228f412147c2e65", func := "impost/impostlaw11.SubidxTurns", spec := "subidxTurns", inPlace := ["slices.overlaps[impost/subidx.node]"], unfollowed := true, recurses := true, apart := false, narrowed := true }
def SubidxTurnsUptoSaid : Prop := subidxTurnsUptoRow.holds Try.pinned (OpenSpec.upto subidxTurnsSpec)

/-- 'impostlaw11.SubidxPlays', WHERE WHAT IT READS IS OF BULK AT MOST 1048576: true; the input reads as it did. -/
def subidxPlaysUptoRow : OpenClaim := { program := "ythgcmcifhhkebaa", sum := "69ae25d8a2c08c46fcd8c02949c3a630afc1e2175de30f754228f412147c2e65", func := "impost/impostlaw11.SubidxPlays", spec := "subidxPlays", inPlace := ["slices.overlaps[impost/subidx.node]"], unfollowed := true, recurses := true, apart := false, narrowed := true }
def SubidxPlaysUptoSaid : Prop := subidxPlaysUptoRow.holds Try.pinned (OpenSpec.upto subidxPlaysSpec)

/-- 'impostlaw11.SubidxStabs', WHERE WHAT IT READS IS OF BULK AT MOST 1048576: true; the input reads as it did. -/
def subidxStabsUptoRow : OpenClaim := { program := "ythgcmcifhhkebaa", sum := "69ae25d8a2c08c46fcd8c02949c3a630afc1e2175de30f754228f412147c2e65", func := "impost/impostlaw11.SubidxStabs", spec := "subidxStabs", inPlace := ["slices.overlaps[impost/subidx.node]"], unfollowed := true, recurses := true, apart := false, narrowed := true }
def SubidxStabsUptoSaid : Prop := subidxStabsUptoRow.holds Try.pinned (OpenSpec.upto subidxStabsSpec)

/-- 'impostlaw11.SubidxGoes', WHERE WHAT IT READS IS OF BULK AT MOST 1048576: true; the input reads as it did. -/
def subidxGoesUptoRow : OpenClaim := { program := "ythgcmcifhhkebaa", sum := "69ae25d8a2c08c46fcd8c02949c3a630afc1e2175de30f754228f412147c2e65", func := "impost/impostlaw11.SubidxGoes", spec := "subidxGoes", inPlace := ["slices.overlaps[impost/subidx.node]"], unfollowed := true, recurses := true, apart := false, narrowed := true }
def SubidxGoesUptoSaid : Prop := subidxGoesUptoRow.holds Try.pinned (OpenSpec.upto subidxGoesSpec)

/-- 'impostlaw11.SubidxMore', WHERE WHAT IT READS IS OF BULK AT MOST 1048576: true; the input reads as it did. -/
def subidxMoreUptoRow : OpenClaim := { program := "ythgcmcifhhkebaa", sum := "69ae25d8a2c08c46fcd8c02949c3a630afc1e2175de30f754228f412147c2e65", func := "impost/impostlaw11.SubidxMore", spec := "subidxMore", inPlace := ["slices.overlaps[impost/subidx.node]"], unfollowed := true, recurses := true, apart := false, narrowed := true }
def SubidxMoreUptoSaid : Prop := subidxMoreUptoRow.holds Try.pinned (OpenSpec.upto subidxMoreSpec)

/-- 'impostlaw11.SubidxNobody', WHERE WHAT IT READS IS OF BULK AT MOST 1048576: true; the input reads as it did. -/
def subidxNobodyUptoRow : OpenClaim := { program := "ythgcmcifhhkebaa", sum := "69ae25d8a2c08c46fcd8c02949c3a630afc1e2175de30f754228f412147c2e65", func := "impost/impostlaw11.SubidxNobody", spec := "subidxNobody", inPlace := ["slices.overlaps[impost/subidx.node]"], unfollowed := true, recurses := true, apart := false, narrowed := true }
def SubidxNobodyUptoSaid : Prop := subidxNobodyUptoRow.holds Try.pinned (OpenSpec.upto subidxNobodySpec)

end Rows
end Go.Proofs.Ythgcmcifhhkebaa
