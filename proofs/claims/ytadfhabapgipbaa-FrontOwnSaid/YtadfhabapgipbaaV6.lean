/- The clean machine's reading operations do what the model's do (fields, indexes, maps, assertions, literals).
   Conditions: the clean operation yields a value, and heap and frame stand as V2 says. -/
import Derived.Test.YtadfhabapgipbaaV5
namespace Go.Proofs.Ytadfhabapgipbaa.V
open Go
set_option linter.unusedVariables false
set_option linter.unusedSimpArgs false

theorem cells_ok {β : Inj} {v v' : Value} (h : VR β v v') : VRs β v.cells.toList v'.cells.toList := by
  cases h
  case agg h => exact h
  all_goals exact .cons (by first | constructor <;> assumption | constructor) .nil

theorem fieldsOf_eq {P : Program} {t : TypeId} {fs : Array Field} (h : fieldsOf P t = some fs) : P.underlying t = some (.struct fs) := by
  unfold fieldsOf at h; split at h
  · rename_i hu; cases h; exact hu
  · cases h

theorem fieldAddrV_ok {E : Env} {β : Inj} {x x' v : Value} (hx : VR β x x') {s : TypeId} {f : Nat} (h : fieldAddrV E s x f = some v) :
    ∃ v', VR β v v' ∧ ∀ w', (Instr.fieldAt s x' f).run E.P w' = .ok v' w' := by
  unfold fieldAddrV at h
  split at h
  · rename_i fs a hf
    cases hx with | @ptr _ a' hA => ?_
    split at h
    · rename_i fd hfd
      split at h
      · rename_i n hn
        have key : ∀ w', (Instr.fieldAt s (.pointer (some a')) f).run E.P w' = .ok (.pointer (some (a'.add fd.offset))) w' := by
          intro w'
          simp [Instr.fieldAt, r_underlying (fieldsOf_eq hf), hfd, Instr.sureAddr, fieldPlace, r_size hn]
        refine ⟨_, ?_, key⟩
        cases hA with
        | @new b o B s0 N k hb => simp at h; subst h; rw [Addr.add_none, Nat.add_assoc]; exact .ptr (.new hb)
        | base => simp at h; subst h; rw [Addr.add_none]; exact .ptr .base
        | odd => simp at h
      · cases h
    · cases h
  · cases h

theorem fieldV_ok {E : Env} {β : Inj} {x x' v : Value} (hx : VR β x x') {t : TypeId} {f : Nat} (h : fieldV E t x f = some v) :
    ∃ v', VR β v v' ∧ ∀ w', (Instr.field t x' f).run E.P w' = .ok v' w' := by
  unfold fieldV at h
  split at h
  · rename_i fs cs hf
    cases hx with | @agg _ cs' hc => ?_
    split at h
    · rename_i fd hfd
      obtain ⟨v', h1, h2⟩ := partV_ok hc h
      refine ⟨v', h1, fun w' => ?_⟩
      simp [Instr.field, r_underlying (fieldsOf_eq hf), hfd, asAgg, h2]
    · cases h
  · cases h

theorem indexAddrV_ok {E : Env} {β : Inj} {x x' i i' v : Value} (hx : VR β x x') (hi : VR β i i') {t : TypeId} (h : indexAddrV E t x i = some v) :
    ∃ v', VR β v v' ∧ ∀ w', (Instr.indexAt t x' i').run E.P w' = .ok v' w' := by
  unfold indexAddrV at h
  split at h
  · rename_i ik n
    cases hi
    split at h
    · rename_i elem a len cap hu
      split at h
      · rename_i hn
        split at h
        · rename_i k hk
          split at h
          · rename_i b hb
            cases h
            obtain ⟨a', c', rfl, hA⟩ := sliceAt_ok hx hb
            refine ⟨_, .ptr hA, fun w' => ?_⟩
            simp [Instr.indexAt, asIntOf, r_underlying hu, hn, r_size hk]
          · cases h
        · cases h
      · cases h
    · rename_i len elem a hu
      split at h
      · rename_i hn
        split at h
        · rename_i k hk
          cases hx with | @ptr _ a' hA => ?_
          have key : ∀ w', (Instr.indexAt t (.pointer (some a')) (.int ik n)).run E.P w' = .ok (.pointer (some (a'.add (n.toNat * k)))) w' := by
            intro w'; simp [Instr.indexAt, asIntOf, r_underlying hu, hn, r_size hk, Instr.sureAddr]
          refine ⟨_, ?_, key⟩
          cases hA with
          | @new b o B s0 N k hb => simp at h; subst h; rw [Addr.add_none, Nat.add_assoc]; exact .ptr (.new hb)
          | base => simp at h
          | odd => simp at h
        · cases h
      · cases h
    · cases h
  · cases h

theorem indexV_ok {E : Env} {β : Inj} {x x' i i' v : Value} (hx : VR β x x') (hi : VR β i i') {t : TypeId} (h : indexV E t x i = some v) :
    ∃ v', VR β v v' ∧ ∀ w', (Instr.index t x' i').run E.P w' = .ok v' w' := by
  unfold indexV at h
  split at h
  · rename_i ik n
    cases hi
    split at h
    · rename_i s hu
      cases hx
      split at h
      · rename_i hn
        split at h
        · rename_i b hb
          cases h
          exact ⟨_, .int _ _, fun w' => by simp [Instr.index, asIntOf, r_underlying hu, hn, hb]⟩
        · cases h
      · cases h
    · rename_i len elem cs hu
      cases hx with | @agg _ cs' hc => ?_
      split at h
      · rename_i hn
        split at h
        · rename_i k hk
          obtain ⟨v', h1, h2⟩ := partV_ok hc h
          refine ⟨v', h1, fun w' => ?_⟩
          simp [Instr.index, asIntOf, r_underlying hu, hn, r_size hk, h2]
        · cases h
      · cases h
    · cases h
  · cases h

theorem scalarT_eq {P : Program} {t : TypeId} {d : TypeDesc} (h : scalarT P t = some d) : P.underlying t = some d ∧ ((∃ k, d = .int k) ∨ d = .string ∨ d = .bool) := by
  unfold scalarT at h; split at h
  · rename_i hu; cases h; exact ⟨hu, .inl ⟨_, rfl⟩⟩
  · rename_i hu; cases h; exact ⟨hu, .inr (.inl rfl)⟩
  · rename_i hu; cases h; exact ⟨hu, .inr (.inr rfl)⟩
  · cases h

theorem checkKey_ok {P : Program} {t : TypeId} {d : TypeDesc} (h : scalarT P t = some d) (e : Bool) (v : Value) (w : World) : (Instr.checkKey e 10000 t v).run P w = .ok () w := by
  obtain ⟨hu, hd⟩ := scalarT_eq h
  show (Instr.checkKey e (9999 + 1) t v).run P w = .ok () w
  generalize 9999 = n
  rcases hd with ⟨k, rfl⟩ | rfl | rfl <;> simp [Instr.checkKey, r_underlying hu]

def FRel (β : Inj) : Option (Nat × Value) → Option (Nat × Value) → Prop
  | none, none => True
  | some (j, v), some (j', v') => j' = j ∧ VR β v v'
  | _, _ => False

theorem findM_ok {β : Inj} (kd : TypeDesc) (k : Value) : ∀ (es : List (Value × Value)) (ents : List MapEntry) (i : Nat) (r : Option (Nat × Value)), MRs β es ents → findM kd k es i = some r →
    ∃ r', Instr.findNow kd k ents i = some r' ∧ FRel β r r'
  | [], [], i, r, _, h => by simp [findM] at h; subst h; exact ⟨none, by simp [Instr.findNow], trivial⟩
  | [], _ :: _, _, _, hm, _ => by simp [MRs] at hm
  | _ :: _, [], _, _, hm, _ => by simp [MRs] at hm
  | e :: es, x :: ents, i, r, hm, h => by
    obtain ⟨⟨hp, hk⟩, hv, hm'⟩ := hm
    simp only [findM] at h
    simp only [Instr.findNow, hk]
    cases hs : Instr.sameNow kd k e.1 with
    | none => rw [hs] at h; cases h
    | some b =>
      rw [hs] at h
      cases b with
      | true => simp at h; subst h; exact ⟨some (i, x.val), rfl, rfl, hv⟩
      | false => exact findM_ok kd k es ents (i + 1) r hm' h

theorem findKey_ok {P : Program} {β : Inj} {t : TypeId} {kd : TypeDesc} (ht : scalarT P t = some kd) {k : Value} {es : List (Value × Value)} {ents : List MapEntry} {r : Option (Nat × Value)} (hm : MRs β es ents) (h : findM kd k es 0 = some r) :
    ∃ r', (∀ w, (Instr.findKey t k ents).run P w = .ok r' w) ∧ FRel β r r' := by
  obtain ⟨r', h1, h2⟩ := findM_ok kd k es ents 0 r hm h
  exact ⟨r', fun w => by simp [Instr.findKey, r_underlying (scalarT_eq ht).1, h1], h2⟩

theorem plain0_eq {β : Inj} {v v' : Value} (h : plainN 0 v = true) (hv : VR β v v') : v' = v := plain_eq 0 h hv

theorem bif_some {α : Type} {b : Bool} {x : Option α} {y : α} (h : (bif b then x else none) = some y) : b = true ∧ x = some y := by
  cases b with
  | true => exact ⟨rfl, h⟩
  | false => cases h

def lookRest (key elem : TypeId) (ents : Array MapEntry) (k : Value) (ok : Bool) : Sem Value := do
  Instr.checkKey ents.isEmpty 10000 key k
  let (v, ok') ← match ← Instr.findKey key k ents.toList with
    | some (_, v) => pure (v, true)
    | none => pure (← zeroValue elem, false)
  pure (if ok then .tuple #[v, .bool ok'] else v)

theorem look_nil {P : Program} {w : World} {t key elem : TypeId} (hu : P.underlying t = some (.map key elem)) {k : Value} {ok : Bool} : (Instr.lookup t (.map none) k ok).run P w = (lookRest key elem #[] k ok).run P w := by
  simp only [Instr.lookup, lookRest, Sem.run_bind, r_underlying hu, Result.andThen_ok, Sem.run_pure]
  rfl

theorem look_some {P : Program} {w : World} {t key elem : TypeId} (hu : P.underlying t = some (.map key elem)) {B clock : Nat} {ents : Array MapEntry} (hB : w.heap[B]? = some (.map ents clock)) {k : Value} {ok : Bool} : (Instr.lookup t (.map (some B)) k ok).run P w = (lookRest key elem ents k ok).run P w := by
  have : (getObj B).run P w = .ok (.map ents clock) w := by simp [getObj, Sem.run, hB]
  simp only [Instr.lookup, lookRest, Sem.run_bind, r_underlying hu, Result.andThen_ok, Sem.run_pure, this]
  rfl

theorem lookupV_ok {E : Env} {Wr : Nat → Prop} {β : Inj} {hp : Heap} {w : World} (S : Sim E.P Wr β hp w) {t : TypeId} {x x' k k' v : Value} {ok : Bool} (hx : VR β x x') (hk : VR β k k') (h : lookupV E hp t x k ok = some v) :
    ∃ v', VR β v v' ∧ ∀ w', Ext w w' → (Instr.lookup t x' k' ok).run E.P w' = .ok v' w' := by
  unfold lookupV at h
  split at h
  · rename_i key elem hu
    split at h
    · rename_i kd hkd0
      obtain ⟨hpl, hkd⟩ := bif_some hkd0
      have := plain0_eq hpl hk; subst this
      split at h
      · rename_i es hes
        obtain ⟨ents, red, hm⟩ : ∃ ents : Array MapEntry, (∀ w', Ext w w' → (Instr.lookup t x' k' ok).run E.P w' = (lookRest key elem ents k' ok).run E.P w') ∧ MRs β es ents.toList := by
          unfold mapOf at hes
          split at hes
          · cases hx; cases hes; exact ⟨#[], fun w' _ => look_nil hu, trivial⟩
          · rename_i r
            cases hx with | @map _ B hB => ?_
            split at hes
            · rename_i es' hg
              cases hes
              obtain ⟨B', ents, clock, g1, g2, g3⟩ := S.liveM _ _ hg
              rw [hB] at g1; cases g1
              exact ⟨ents, fun w' he => look_some hu (he.get g2), g3⟩
            · cases hes
          · cases hes
        split at h
        · rename_i i u hfm
          obtain ⟨r', h1, h2⟩ := findKey_ok hkd hm hfm
          cases r' with
          | none => exact h2.elim
          | some r' =>
            obtain ⟨j', u'⟩ := r'
            obtain ⟨rfl, hu'⟩ := h2
            cases h
            refine ⟨if ok then .tuple #[u', .bool true] else u', ?_, fun w' he => ?_⟩
            · cases ok
              · exact hu'
              · exact .tuple (.cons hu' (.cons (.bool _) .nil))
            · rw [red w' he]; simp [lookRest, checkKey_ok hkd, h1]
        · rename_i hfm
          obtain ⟨r', h1, h2⟩ := findKey_ok hkd hm hfm
          cases r' with
          | some r' => exact h2.elim
          | none =>
            split at h
            · rename_i z hz
              cases h
              have hzp := (r_zero (w := w) hz).2
              refine ⟨if ok then .tuple #[z, .bool false] else z, ?_, fun w' he => ?_⟩
              · cases ok
                · exact VR.plain 4 z hzp
                · exact .tuple (.cons (VR.plain 4 z hzp) (.cons (.bool _) .nil))
              · rw [red w' he]; simp [lookRest, checkKey_ok hkd, h1, (r_zero hz).1]
            · cases h
        · cases h
      · cases h
    · cases h
  · cases h

theorem notIface_eq {P : Program} {t : TypeId} (h : notIface P t = true) : ∃ d, P.underlying t = some d ∧ ∀ ms, d ≠ .interface ms := by
  unfold notIface at h; split at h
  · cases h
  · rename_i d hd hu; exact ⟨d, hu, fun ms e => hd ms e⟩
  · cases h

theorem assertV_ok {E : Env} {β : Inj} {x x' v : Value} (hx : VR β x x') {xT t : TypeId} {ok : Bool} (h : assertV E x t ok = some v) :
    ∃ v', VR β v v' ∧ ∀ w', (Instr.typeAssert x' xT t ok).run E.P w' = .ok v' w' := by
  unfold assertV at h
  obtain ⟨hn, h⟩ := bif_some h
  obtain ⟨d, hu, hd⟩ := notIface_eq hn
  split at h
  · rename_i u y
    cases hx with | @iface _ _ y' hy => ?_
    split at h
    · rename_i e; subst e
      cases h
      refine ⟨if ok then .tuple #[y', .bool true] else y', ?_, fun w' => ?_⟩
      · cases ok
        · exact hy
        · exact .tuple (.cons hy (.cons (.bool _) .nil))
      · simp only [Instr.typeAssert, Sem.run_bind, r_underlying hu, Result.andThen_ok]
        cases d <;> first | (simp; done) | exact (hd _ rfl).elim
    · rename_i e
      split at h
      · rename_i hok
        split at h
        · rename_i z hz
          cases h
          refine ⟨_, .tuple (.cons (VR.plain 4 z (r_zero (w := default) hz).2) (.cons (.bool _) .nil)), fun w' => ?_⟩
          simp only [Instr.typeAssert, Sem.run_bind, r_underlying hu, Result.andThen_ok]
          cases d <;> first | (simp [e, hok, (r_zero hz).1]; done) | exact (hd _ rfl).elim
        · cases h
      · cases h
  · cases hx
    split at h
    · rename_i hok
      split at h
      · rename_i z hz
        cases h
        refine ⟨_, .tuple (.cons (VR.plain 4 z (r_zero (w := default) hz).2) (.cons (.bool _) .nil)), fun w' => ?_⟩
        simp only [Instr.typeAssert, Sem.run_bind, r_underlying hu, Result.andThen_ok]
        cases d <;> first | (simp [hok, (r_zero hz).1]; done) | exact (hd _ rfl).elim
      · cases h
    · cases h
  · cases h

end Go.Proofs.Ytadfhabapgipbaa.V
