/- Calls that sort, or strike what is there twice, told by the library's own contracts.
   Conditions: of the program: its bodies are those of the contracts (closed facts, by the kernel). -/
import Derived.Test.YtfgoccdjbgecfaaV23
import Derived.Shelf.Sort.Plain
import Derived.Shelf.Slices.In.SortNone
import Derived.Shelf.Slices.CompactS
namespace Go.Proofs.Ytfgoccdjbgecfaa.V
open Go
set_option linter.unusedVariables false
set_option linter.unusedSimpArgs false
set_option linter.unusedSectionVars false

section
variable {α : Type} [Inhabited α]

/-- How an element lies in a cell, and back. -/
structure Cell (enc : α → Value) (dec : Value → Option α) : Prop where
  one : ∀ x, cellOk (enc x) = true
  pl : ∀ x, plainN 4 (enc x) = true
  dec : ∀ v x, dec v = some x → v = enc x

end

/-! ### Texts and whole numbers -/
theorem toList_arr (s : ByteArray) : (⟨s.toList.toArray⟩ : ByteArray) = s := by
  apply ByteArray.ext
  simp [ByteArray.toList_eq]
def sortL (ss : List (List UInt8)) : List (List UInt8) := ss.mergeSort fun x y => decide (x ≤ y)
/-! ### Runs, whatever their depth -/
open Classical in
noncomputable def runAny (E : Env) (g : FuncId) (args : List Value) (h : Heap) : Option (Value × Heap) := if H : ∃ r n, run E n g args h = some r then some (Classical.choose H) else none
theorem runAny_of {E : Env} {g : FuncId} {args : List Value} {h : Heap} {n : Nat} {r : Value × Heap} (hr : run E n g args h = some r) : runAny E g args h = some r := by
  have H : ∃ r n, run E n g args h = some r := ⟨r, n, hr⟩
  unfold runAny
  rw [dif_pos H]
  obtain ⟨m, hm⟩ := Classical.choose_spec H
  have e1 := run_le (Nat.le_max_left n m) _ _ _ _ hr
  have e2 := run_le (Nat.le_max_right n m) _ _ _ _ hm
  rw [e1] at e2; exact e2.symm
theorem runAny_to {E : Env} {g : FuncId} {args : List Value} {h : Heap} {r : Value × Heap} (hr : runAny E g args h = some r) : ∃ n, run E n g args h = some r := by
  unfold runAny at hr
  split at hr
  · rename_i H
    cases hr
    exact Classical.choose_spec H
  · cases hr
theorem runAny_framed {E : Env} (hE : FramedE E) (g : FuncId) : Framed (fun _ => runAny E g) := by
  intro S f h _ args v f' m hc
  obtain ⟨n, hn⟩ := runAny_to hc
  obtain ⟨h', h1, h2, h3⟩ := run_msk hE n S f h g args v f' m hn
  exact ⟨h', runAny_of h1, h2, h3⟩

/-- What room there is is told as if there were none, and nothing in it (k: the cells of an element). -/
def shrinkV (k : Nat) : Value × Heap → Option (Value × Heap)
  | (.slice none 0 0, h) => some (.slice none 0 0, h)
  | (.slice (some ⟨b, 0, some 0⟩) l c, h) => match h.get b with
    | some (.cells cs T) => bif Nat.ble h.lim b && Nat.ble l c then some (.slice (some ⟨b, 0, some 0⟩) l l, h.set b (.cells (cs.take (l * k)) T)) else none
    | _ => none
  | _ => none
theorem shrink_slack (k b l c : Nat) (h : Heap) : shrinkV k (.slice (some ⟨b, 0, some 0⟩) l c, h) = (match h.get b with
    | some (.cells cs T) => bif Nat.ble h.lim b && Nat.ble l c then some (.slice (some ⟨b, 0, some 0⟩) l l, h.set b (.cells (cs.take (l * k)) T)) else none
    | _ => none) := rfl
noncomputable def shrinkP (k : Nat) (E : Env) (g : FuncId) (args : List Value) (h : Heap) : Option (Value × Heap) := (runAny E g args h).bind (shrinkV k)

theorem shrinkP_ok (k : Nat) {E : Env} (hE : SideOK E) (g : FuncId) :
    ∀ args hp v hp', shrinkP k E g args hp = some (v, hp') → ∀ Wr β w (args' : Array Value), Sim E.P Wr β hp w → VRs β args args'.toList → Calls E.P g args' w (Out E.P Wr β hp hp' v w) := by
  intro args hp v hp' hk Wr β w args' S ha
  unfold shrinkP at hk
  cases er : runAny E g args hp with
  | none => rw [er] at hk; cases hk
  | some r =>
    rw [er] at hk
    obtain ⟨v1, h1⟩ := r
    obtain ⟨n, hn⟩ := runAny_to er
    have hk : shrinkV k (v1, h1) = some (v, hp') := hk
    refine (run_ok hE n g args _ _ _ hn Wr β w args' S ha).mono ?_
    rintro e w' ⟨v', β', rfl, hu, S', hv, hf, hl⟩
    unfold shrinkV at hk
    split at hk
    · rename_i heq; cases heq; cases hk; exact ⟨v', β', rfl, hu, S', hv, hf, hl⟩
    · rename_i b l c h2 heq
      cases heq
      split at hk
      case h_2 => cases hk
      rename_i cs T hg
      obtain ⟨hlim, hk⟩ := bif_some hk
      cases hk
      rw [Bool.and_eq_true] at hlim
      have hlc := Nat.le_of_ble_eq_true hlim.2
      have hlim := Nat.le_of_ble_eq_true hlim.1
      obtain ⟨x, hx, hO⟩ := S'.get hg (by intro q; cases q)
      have alv : alive h1 b := ⟨_, hg, by intro q; cases q⟩
      obtain ⟨C, fr, o1, o2, o3, o4, o5, o6⟩ := hO
      refine ⟨v', β', rfl, hu, S'.setO hx (fun b' x' a' hne hb => S'.inj b' b x' x a' alv hb hx hne) (fun _ _ => S'.wr b x alv hlim hx) ⟨C, fr, o1, o2, o3, o4, by rw [List.length_take]; omega, fun i v hv => ?_⟩, ?_, hf, ⟨hl.lim, hl.n⟩⟩
      · rw [List.getElem?_take] at hv
        split at hv
        · exact o6 i v hv
        · cases hv
      · cases hv with
        | slice hA => cases hA
        | slack hb _ hc hn => exact .slack hb l (Nat.le_trans hlc hc) hn
    · cases hk
theorem shrinkP_framed (k : Nat) {E : Env} (hE : FramedE E) (g : FuncId) : Framed (fun _ => shrinkP k E g) := by
  intro S f h g0 args v f' m hc
  simp only [shrinkP] at hc ⊢
  cases er : runAny E g args f with
  | none => rw [er] at hc; cases hc
  | some r =>
    rw [er] at hc
    obtain ⟨v1, f1⟩ := r
    have hc : shrinkV k (v1, f1) = some (v, f') := hc
    obtain ⟨h1, e1, m1, k1⟩ := runAny_framed hE g S f h g args v1 f1 m er
    have e1 : runAny E g args h = some (v1, h1) := e1
    rw [e1]
    show ∃ h', shrinkV k (v1, h1) = some (v, h') ∧ _
    unfold shrinkV at hc
    split at hc
    · rename_i heq; cases heq; cases hc; exact ⟨_, rfl, m1, k1⟩
    · rename_i b l c h2 heq
      cases heq
      split at hc
      case h_2 => cases hc
      rename_i cs T hg
      obtain ⟨hlim, hc⟩ := bif_some hc
      cases hc
      rw [shrink_slack, m1.cells hg]
      dsimp only
      rw [m1.lim, hlim]
      obtain ⟨m2, k2⟩ := m1.set (m1.out hg (by intro q; cases q)) (.cells (cs.take (l * k)) T)
      exact ⟨_, rfl, m2, k1.trans k2⟩
    · cases hc

/-- An environment with calls that are told beside it. -/
def envP (E : Env) (ps : List (Nat × (List Value → Heap → Option (Value × Heap)))) : Env := { E with prim := fun g => match assoc ps g with | some p => some p | none => E.prim g }
theorem envP_framed {E : Env} (hE : FramedE E) {ps : List (Nat × (List Value → Heap → Option (Value × Heap)))} (h : ∀ p ∈ ps, Framed (fun _ => p.2)) : FramedE (envP E ps) := by
  intro g p hp
  have hp' : (match assoc ps g with | some p => some p | none => E.prim g) = some p := hp
  split at hp'
  · rename_i q hq; cases hp'; exact h _ (assoc_mem hq)
  · exact hE g p hp'
theorem envP_ok {E : Env} (hE : SideOK E) {ps : List (Nat × (List Value → Heap → Option (Value × Heap)))} (hf : ∀ p ∈ ps, Framed (fun _ => p.2))
    (h : ∀ p ∈ ps, ∀ args hp v hp', p.2 args hp = some (v, hp') → ∀ Wr β w (args' : Array Value), Sim E.P Wr β hp w → VRs β args args'.toList → Calls E.P p.1 args' w (Out E.P Wr β hp hp' v w)) : SideOK (envP E ps) where
  eq := hE.eq
  name := hE.name
  mixed := hE.mixed
  framed := envP_framed hE.framed hf
  lex := by
    intro g fn c hg hb hp
    refine hE.lex g fn c hg hb ?_
    have hp' : (match assoc ps g with | some p => some p | none => E.prim g) = none := hp
    split at hp'
    · cases hp'
    · exact hp'
  meth := hE.meth
  prim := by
    intro g p hp
    have hp' : (match assoc ps g with | some p => some p | none => E.prim g) = some p := hp
    split at hp'
    · rename_i q hq; cases hp'; exact h _ (assoc_mem hq)
    · exact hE.prim g p hp'
end Go.Proofs.Ytfgoccdjbgecfaa.V
