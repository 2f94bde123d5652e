/- Environments, put together.
   No condition: these are laws of the clean machine. -/
import Derived.Test.YtadfhabapgipbaaV22
namespace Go.Proofs.Ytadfhabapgipbaa.V
open Go
set_option linter.unusedVariables false
set_option linter.unusedSimpArgs false

def lexAt (P : Program) (g : Nat) : Bool := match P.funcs[g]? with
  | some fn => match fn.body with | some c => lexOK P c | none => true
  | none => true
def nameAt (P : Program) (g : Nat) : Bool := match P.funcs[g]? with
  | some fn => bif fn.body.isSome then !(fn.name == "runtime.NumGoroutine") else true
  | none => true

def assoc {α : Type} : List (Nat × α) → Nat → Option α
  | [], _ => none
  | (k, a) :: r, t => bif Nat.beq k t then some a else assoc r t
theorem assoc_mem {α : Type} : ∀ {l : List (Nat × α)} {t : Nat} {a : α}, assoc l t = some a → (t, a) ∈ l := by
  intro l
  induction l with
  | nil => intro t a h; cases h
  | cons p r ih =>
    intro t a h
    obtain ⟨k, b⟩ := p
    unfold assoc at h
    cases e : Nat.beq k t with
    | true =>
      rw [e] at h
      cases h
      rw [Nat.eq_of_beq_eq_true e]
      exact List.mem_cons_self
    | false => rw [e] at h; exact List.mem_cons_of_mem _ (ih h)

theorem methRow_ok {P : Program} {t : TypeId} {name : String} {g : FuncId} (h : methRow P t name = some g) (v : Value) (w : World) : (Go.method (P.types.size + Made.depth) t v name).run P w = .ok (g, v) w := by
  unfold methRow at h
  split at h
  · cases h
  · rename_i i hi
    split at h
    · cases h
    · rename_i m hm
      obtain ⟨hp, h⟩ := bif_some h
      split at h
      · rename_i f pr hf
        have hpath : m.path.toList = [] := by simpa using hp
        have e : P.types.size + Made.depth = (P.types.size + 99) + 1 := rfl
        rw [e]
        unfold Go.method
        simp only [Sem.run_bind, r_info hi, Result.andThen_ok, hm, hpath, follow, Sem.run_pure, hf]
        split at h
        · rename_i el hu; cases h
          simp only [receiverAt, Sem.run_bind, r_underlying hu, Result.andThen_ok, Place.get, Sem.run_pure]
        · cases h
        · rename_i d hne hu; cases h
          simp only [receiverAt, Sem.run_bind, r_underlying hu, Result.andThen_ok]
          cases d <;> first | (exact (hne _ rfl).elim) | simp only [Place.get, Sem.run_pure, Sem.run_bind, Result.andThen_ok]
        · cases h
      · cases h

/-- The plain environment of a program. -/
def env1 (P : Program) (eqs : List (Nat × List CK)) : Env := ⟨P, assoc eqs, fun _ => none, methRow P⟩

theorem env1_ok {P : Program} {eqs : List (Nat × List CK)} {n : Nat} (hn : P.funcs.size = n) (h1 : eqs.all (fun p => flatT P p.1 p.2) = true) (h2 : (List.range n).all (nameAt P) = true) (h3 : P.follows .mixedOrders = true) (h4 : (List.range n).all (lexAt P) = true) :
    SideOK (env1 P eqs) where
  eq := eqOK_of (fun t ks h => List.all_eq_true.mp h1 _ (assoc_mem h))
  name := by
    intro g fn hg0 hb
    have hg : P.funcs[g]? = some fn := hg0
    have hlt : g < n := by
      rw [← hn]
      rcases Nat.lt_or_ge g P.funcs.size with q | q
      · exact q
      · have := Array.getElem?_eq_none (xs := P.funcs) q; rw [this] at hg; cases hg
    have := List.all_eq_true.mp h2 g (List.mem_range.mpr hlt)
    unfold nameAt at this
    have hg' : P.funcs[g]? = some fn := hg
    rw [hg'] at this
    dsimp only at this
    rw [hb] at this
    simpa using this
  mixed := h3
  framed := fun g p hp => by cases hp
  lex := by
    intro g fn c hg0 hb _
    have hg : P.funcs[g]? = some fn := hg0
    have hlt : g < n := by
      rw [← hn]
      rcases Nat.lt_or_ge g P.funcs.size with q | q
      · exact q
      · have := Array.getElem?_eq_none (xs := P.funcs) q; rw [this] at hg; cases hg
    have := List.all_eq_true.mp h4 g (List.mem_range.mpr hlt)
    unfold lexAt at this
    have hg' : P.funcs[g]? = some fn := hg
    rw [hg'] at this
    dsimp only at this
    rw [hb] at this
    exact this
  meth := fun t name g h v w => methRow_ok h v w
  prim := fun _ _ h => by cases h

/-- .. with functions that are not run. -/
def env1N (P : Program) (eqs : List (Nat × List CK)) (bad : List Nat) : Env := ⟨P, assoc eqs, fun g => bif bad.any (Nat.beq g) then some (fun _ _ => none) else none, methRow P⟩
theorem env1N_framed (P : Program) (eqs : List (Nat × List CK)) (bad : List Nat) : FramedE (env1N P eqs bad) := by
  intro g p hp
  have hp' : (bif bad.any (Nat.beq g) then some (fun _ _ => none) else none) = some p := hp
  cases e : bad.any (Nat.beq g) with
  | true => rw [e] at hp'; cases hp'; exact never_framed
  | false => rw [e] at hp'; cases hp'
theorem env1N_ok {P : Program} {eqs : List (Nat × List CK)} {bad : List Nat} {n : Nat} (hn : P.funcs.size = n) (h1 : eqs.all (fun p => flatT P p.1 p.2) = true) (h2 : (List.range n).all (nameAt P) = true) (h3 : P.follows .mixedOrders = true) (h4 : (List.range n).all (fun g => bad.any (Nat.beq g) || lexAt P g) = true) :
    SideOK (env1N P eqs bad) where
  eq := eqOK_of (fun t ks h => List.all_eq_true.mp h1 _ (assoc_mem h))
  name := by
    intro g fn hg0 hb
    have hg : P.funcs[g]? = some fn := hg0
    have hlt : g < n := by
      rw [← hn]
      rcases Nat.lt_or_ge g P.funcs.size with q | q
      · exact q
      · have := Array.getElem?_eq_none (xs := P.funcs) q; rw [this] at hg; cases hg
    have := List.all_eq_true.mp h2 g (List.mem_range.mpr hlt)
    unfold nameAt at this
    have hg' : P.funcs[g]? = some fn := hg
    rw [hg'] at this
    dsimp only at this
    rw [hb] at this
    simpa using this
  mixed := h3
  framed := env1N_framed P eqs bad
  lex := by
    intro g fn c hg0 hb hp
    have hg : P.funcs[g]? = some fn := hg0
    have hlt : g < n := by
      rw [← hn]
      rcases Nat.lt_or_ge g P.funcs.size with q | q
      · exact q
      · have := Array.getElem?_eq_none (xs := P.funcs) q; rw [this] at hg; cases hg
    have hp' : (bif bad.any (Nat.beq g) then some (fun (_ : List Value) (_ : Heap) => (none : Option (Value × Heap))) else none) = none := hp
    have this := List.all_eq_true.mp h4 g (List.mem_range.mpr hlt)
    cases e : bad.any (Nat.beq g) with
    | true => rw [e] at hp'; cases hp'
    | false =>
      rw [e, Bool.false_or] at this
      unfold lexAt at this
      have hg' : P.funcs[g]? = some fn := hg
      rw [hg'] at this
      dsimp only at this
      rw [hb] at this
      exact this
  meth := fun t name g h v w => methRow_ok h v w
  prim := by
    intro g p hp
    have hp' : (bif bad.any (Nat.beq g) then some (fun _ _ => none) else none) = some p := hp
    cases e : bad.any (Nat.beq g) with
    | true => rw [e] at hp'; cases hp'; intro args hp v hp2 h; cases h
    | false => rw [e] at hp'; cases hp'

/-- Calls without arguments that are known, beside an environment. -/
def envK (E : Env) (ks : List (Nat × Value)) : Env := { E with prim := fun g => match assoc ks g with | some v => some (known v) | none => E.prim g }

theorem envK_framed {E : Env} (hE : FramedE E) (ks : List (Nat × Value)) : FramedE (envK E ks) := by
  intro g p hp
  have hp' : (match assoc ks g with | some v => some (known v) | none => E.prim g) = some p := hp
  split at hp'
  · cases hp'; exact known_framed _
  · exact hE g p hp'
theorem envK_ok {E : Env} (hE : SideOK E) {ks : List (Nat × Value)} (h : ∀ p ∈ ks, plainN 4 p.2 = true ∧ ∃ n, (match run E n p.1 [] heapE with | some (u, _) => u = p.2 | none => False)) : SideOK (envK E ks) where
  eq := hE.eq
  name := hE.name
  mixed := hE.mixed
  framed := envK_framed hE.framed ks
  lex := by
    intro g fn c hg hb hp
    refine hE.lex g fn c hg hb ?_
    have hp' : (match assoc ks g with | some v => some (known v) | none => E.prim g) = none := hp
    split at hp'
    · cases hp'
    · exact hp'
  meth := hE.meth
  prim := by
    intro g p hp
    have hp' : (match assoc ks g with | some v => some (known v) | none => E.prim g) = some p := hp
    split at hp'
    · rename_i v hv
      cases hp'
      obtain ⟨h1, n, h2⟩ := h _ (assoc_mem hv)
      exact known_ok hE h1 h2
    · exact hE.prim g p hp'

theorem env1_framed (P : Program) (eqs : List (Nat × List CK)) : FramedE (env1 P eqs) := fun g p hp => by cases hp

theorem known_ev {E : Env} {ks : List (Nat × Value)} {g : FuncId} {v : Value} (hg : assoc ks g = some v) (h : Heap) (hw : Wf h) : Ev (envK E ks) g [] h (fun w _ => w = v) := by
  refine ⟨1, v, h, ?_, HExt.refl h, rfl⟩
  have : (envK E ks).prim g = some (known v) := by show (match assoc ks g with | some v => some (known v) | none => E.prim g) = _; rw [hg]
  simp only [run, this, known]

end Go.Proofs.Ytadfhabapgipbaa.V
