/- What is given, opened, with what the strings in it weigh.
   No condition: these are laws of the clean machine. -/
import Derived.Test.YtokfjifeofpkkaaGreatV31
import Derived.SizedLaws
namespace Go.Proofs.YtokfjifeofpkkaaGreat.V
open Go
set_option linter.unusedVariables false
set_option linter.unusedSimpArgs false
section
variable {H : Type} {enc : TypeId × Value → H} {P : Program} {W : World} {spare : Nat → Bool} {held : Bool}
def OpenW {α : Type} (enc : TypeId × Value → H) (P : Program) (W : World) (spare : Nat → Bool) (held : Bool) (t : TypeId) (R : Rep α) (ok : α → Prop) : Prop :=
 ∀ fuel cs y, DataW.trod enc P W 0 spare held fuel t cs = some y → (∀ n ∈ y.1.weights P t, n ≤ reachBytes) → ∃ a : α, R.C (heap0 W) (cs.map flagS) a ∧ cs.all okC = true ∧ ok a
theorem open_strW {t : TypeId} (ht : P.underlying t = some .string) {T : Nat} : OpenW enc P W spare held t (RS_ T) (fun x => x.size ≤ reachBytes) := by
 intro fuel cs y h hw
 obtain ⟨x, e, e2, w⟩ := DataW.trod_string ht h
 subst e
 subst e2
 refine ⟨x, rfl, rfl, ?_⟩
 have := hw x.data.toList.length (by simp [DataW.weights])
 exact this
theorem wpart {t : TypeId} {fs : Array Field} {xs : List (DataW H × List MemPlace)} {i : Nat} {f : Field} {x : DataW H × List MemPlace} {B : Nat} (hu : P.underlying t = some (.struct fs)) (hw : ∀ n ∈ (DataW.agg (xs.map (·.1))).weights P t, n ≤ B) (hf : fs[i]? = some f) (hx : xs[i]? = some x) : ∀ n ∈ x.1.weights P f.type, n ≤ B := by
 intro n hn
 refine hw n ?_
 simp only [DataW.weights, hu]
 exact DataW.weights_mem_each (j := i) (by simp [hf]) (by simp [hx]) n hn
end
end Go.Proofs.YtokfjifeofpkkaaGreat.V
