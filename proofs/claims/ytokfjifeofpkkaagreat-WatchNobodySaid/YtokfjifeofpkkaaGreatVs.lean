/- Calls that sort, or strike what is there twice, told by the library's own contracts.
   Conditions: of the program: its bodies are those of the contracts (closed facts, by the kernel). -/
import Derived.Test.YtokfjifeofpkkaaGreatV23
import Derived.Shelf.Sort.Plain
import Derived.Shelf.Slices.In.SortNone
import Derived.Shelf.Slices.CompactS
namespace Go.Proofs.YtokfjifeofpkkaaGreat.V
open Go
set_option linter.unusedVariables false
set_option linter.unusedSimpArgs false
set_option linter.unusedSectionVars false
section
variable {α : Type} [Inhabited α]
structure Cell (enc : α → Value) (dec : Value → Option α) : Prop where
 one : ∀ x, cellOk (enc x) = true
 pl : ∀ x, plainN 4 (enc x) = true
 dec : ∀ v x, dec v = some x → v = enc x
end
def envP (E : Env) (ps : List (Nat × (List Value → Heap → Option (Value × Heap)))) : Env := { E with prim := fun g => match assoc ps g with | some p => some p | none => E.prim g }
theorem envP_framed {E : Env} (hE : FramedE E) {ps : List (Nat × (List Value → Heap → Option (Value × Heap)))} (h : ∀ p ∈ ps, Framed (fun _ => p.2)) : FramedE (envP E ps) := by
 intro g p hp
 have hp' : (match assoc ps g with | some p => some p | none => E.prim g) = some p := hp
 split at hp'
 ·
  rename_i q hq; cases hp'; exact h _ (assoc_mem hq)
 ·
  exact hE g p hp'
theorem envP_ok {E : Env} (hE : SideOK E) {ps : List (Nat × (List Value → Heap → Option (Value × Heap)))} (hf : ∀ p ∈ ps, Framed (fun _ => p.2))
 (h : ∀ p ∈ ps, ∀ args hp v hp', p.2 args hp = some (v, hp') → ∀ Wr β w (args' : Array Value), Sim E.P Wr β hp w → VRs β args args'.toList → Calls E.P p.1 args' w (Out E.P Wr β hp hp' v w)) : SideOK (envP E ps) where
 eq := hE.eq
 name := hE.name
 mixed := hE.mixed
 framed := envP_framed hE.framed hf
 lex := by
  intro g fn c hg hb hp
  refine hE.lex g fn c hg hb ?_
  have hp' : (match assoc ps g with | some p => some p | none => E.prim g) = none := hp
  split at hp'
  ·
   cases hp'
  ·
   exact hp'
 meth := hE.meth
 prim := by
  intro g p hp
  have hp' : (match assoc ps g with | some p => some p | none => E.prim g) = some p := hp
  split at hp'
  ·
   rename_i q hq; cases hp'; exact h _ (assoc_mem hq)
  ·
   exact hE.prim g p hp'
end Go.Proofs.YtokfjifeofpkkaaGreat.V
