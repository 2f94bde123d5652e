/- What an environment needs: '==' of flat structs, calls that are known to tell the same always.
   No condition: these are laws of the clean machine. -/
import Derived.Test.YtadfhabapgipbaaV21
import Derived.Laws.StructEq
namespace Go.Proofs.Ytadfhabapgipbaa.V
open Go
set_option linter.unusedVariables false
set_option linter.unusedSimpArgs false

/-! ### Structs that are compared cell by cell -/
def ckType (P : Program) (t : TypeId) : CK → Bool
  | .int k => match P.underlying t with | some (.int k') => k' == k | _ => false
  | .str => match P.underlying t with | some .string => true | _ => false
  | .bool => match P.underlying t with | some .bool => true | _ => false
def flatFs (P : Program) : List Field → List CK → Nat → Bool
  | [], [], _ => true
  | f :: fs, k :: ks, i => !(f.name == "_") && Nat.beq f.offset i && ckType P f.type k && Nat.beq (P.cellsOf f.type) 1 && flatFs P fs ks (i + 1)
  | _, _, _ => false
def flatT (P : Program) (t : TypeId) (ks : List CK) : Bool :=
  match P.underlying t with
  | some (.struct fs) => flatFs P fs.toList ks 0 && !P.stoodInHeld t && !P.eqGuardType P.depth t
  | _ => false

theorem part_scalar {P : Program} {t : TypeId} {k : CK} (h : ckType P t k = true) {xs : Array Value} {i : Nat} {v : Value} (hv : xs[i]? = some v) (w : World) : (part t xs i).run P w = .ok v w := by
  unfold ckType at h
  cases k with
  | int k => dsimp only at h; split at h
             · rename_i hu; simp [part, isAgg, underlying, hu, hv]
             · cases h
  | str => dsimp only at h; split at h
           · rename_i hu; simp [part, isAgg, underlying, hu, hv]
           · cases h
  | bool => dsimp only at h; split at h
            · rename_i hu; simp [part, isAgg, underlying, hu, hv]
            · cases h

theorem equal_scalar {P : Program} {t : TypeId} {k : CK} (h : ckType P t k = true) {x y : Value} {b : Bool} (hv : ckEq k x y = some b) (d : Nat) (w : World) : (Op.equalIn (d + 1) t x y).run P w = .ok b w := by
  unfold ckType at h
  cases k with
  | int k =>
    dsimp only at h; split at h
    · rename_i hu
      cases x <;> cases y <;> simp only [ckEq] at hv <;> try (cases hv; done)
      split at hv
      · rename_i q
        obtain ⟨q1, q2⟩ := q
        subst q1 q2
        cases hv
        simp [Op.equalIn, underlying, hu]
      · cases hv
    · cases h
  | str =>
    dsimp only at h; split at h
    · rename_i hu
      cases x <;> cases y <;> simp only [ckEq] at hv <;> try (cases hv; done)
      cases hv
      simp [Op.equalIn, underlying, hu]
    · cases h
  | bool =>
    dsimp only at h; split at h
    · rename_i hu
      cases x <;> cases y <;> simp only [ckEq] at hv <;> try (cases hv; done)
      cases hv
      simp [Op.equalIn, underlying, hu]
    · cases h

theorem fields_flat {P : Program} {d : Nat} {xs ys : Array Value} {w : World} : ∀ (fs : List Field) (ks : List CK) (i : Nat) (b : Bool), flatFs P fs ks i = true → ckAll ks (xs.toList.drop i) (ys.toList.drop i) = some b →
    (Op.eqFields (d + 1) xs ys fs).run P w = .ok b w := by
  intro fs
  induction fs with
  | nil =>
    intro ks i b hf hc
    cases ks with
    | nil =>
      cases e1 : xs.toList.drop i with
      | nil =>
        cases e2 : ys.toList.drop i with
        | nil => rw [e1, e2] at hc; cases hc; simp [Op.eqFields]
        | cons _ _ => rw [e1, e2] at hc; cases hc
      | cons _ _ => rw [e1] at hc; cases hc
    | cons _ _ => cases hf
  | cons f fs ih =>
    intro ks i b hf hc
    cases ks with
    | nil => cases hf
    | cons k ks =>
      simp only [flatFs, Bool.and_eq_true] at hf
      obtain ⟨⟨⟨⟨hn, ho⟩, hk⟩, hz⟩, hr⟩ := hf
      have ho := Nat.eq_of_beq_eq_true ho
      subst ho
      cases e1 : xs.toList.drop f.offset with
      | nil => rw [e1] at hc; cases hc
      | cons x xr =>
        cases e2 : ys.toList.drop f.offset with
        | nil => rw [e1, e2] at hc; cases hc
        | cons y yr =>
          rw [e1, e2] at hc
          simp only [ckAll] at hc
          split at hc
          · rename_i c hc1
            split at hc
            · rename_i r hr1
              cases hc
              have hx : xs[f.offset]? = some x := by
                rw [← Array.getElem?_toList, ← List.head?_drop, e1]; rfl
              have hy : ys[f.offset]? = some y := by
                rw [← Array.getElem?_toList, ← List.head?_drop, e2]; rfl
              have t1 : xs.toList.drop (f.offset + 1) = xr := by rw [← List.tail_drop, e1]; rfl
              have t2 : ys.toList.drop (f.offset + 1) = yr := by rw [← List.tail_drop, e2]; rfl
              have hr2 := ih ks (f.offset + 1) r hr (by rw [t1, t2]; exact hr1)
              have hn' : f.name ≠ "_" := by simpa using hn
              simp only [Op.eqFields, if_pos hn', Sem.run_bind, part_scalar hk hx w, part_scalar hk hy w, equal_scalar hk hc1 d w, Result.andThen_ok]
              cases c
              · simp
              · simpa using hr2
            · cases hc
          · cases hc

theorem eqOK_of {E : Env} (h : ∀ t ks, E.eqT t = some ks → flatT E.P t ks = true) : EqOK E := by
  intro t ks ht x y b X Y hc w
  have hf := h t ks ht
  unfold flatT at hf
  split at hf
  · rename_i fs hu
    simp only [Bool.and_eq_true, Bool.not_eq_true'] at hf
    obtain ⟨⟨h1, h2⟩, h3⟩ := hf
    have e := fields_flat (P := E.P) (d := 9998) (xs := x) (ys := y) (w := w) fs.toList ks 0 b h1 (by simpa using hc)
    have hfo : E.P.fieldsOf t = fs := by simp [Program.fieldsOf, hu]
    refine ⟨?_, ?_, ?_⟩
    · simp [eqGuard, h3]
    · simp [eqGuard, h3]
    · show (Op.equalIn (9999 + 1) t (.agg x) (.agg y)).run E.P w = _
      rw [run_equalIn_struct (P := E.P) w 9999 t x y (by rw [hfo]; exact hu) h2, hfo]
      exact e
  · cases hf

/-! ### Calls that are known -/
def heapE : Heap := ⟨fun _ _ => none, 0, 0, .nil⟩
theorem simE (P : Program) (w : World) : Sim P (fun k => w.heap.size ≤ k) (fun _ => none) heapE w where
  base := fun b o v h => by cases h
  dom := fun b x h => by cases h
  tdom := fun b o h => by cases h
  live := fun b c T h => by cases h
  liveM := fun b es h => by cases h
  inj := fun b1 b2 x1 x2 _ _ h => by cases h
  wr := fun b x _ _ h => by cases h
  fresh := fun k h => h
  img := fun b x h => by cases h

/-- A call without arguments that tells the same always. -/
def known (v : Value) (args : List Value) (h : Heap) : Option (Value × Heap) := match args with | [] => some (v, h) | _ => none

theorem known_ok {E : Env} (hE : SideOK E) {g : FuncId} {v : Value} (hp : plainN 4 v = true) {n : Nat} (hr : (match run E n g [] heapE with | some (u, _) => u = v | none => False)) :
    ∀ args hp v' hp', known v args hp = some (v', hp') → ∀ Wr β w (args' : Array Value), Sim E.P Wr β hp w → VRs β args args'.toList → Calls E.P g args' w (Out E.P Wr β hp hp' v' w) := by
  intro args h v' h' hk Wr β w args' S ha
  unfold known at hk
  split at hk
  · cases hk
    have : args' = #[] := by
      cases args' with
      | mk l => cases l with
        | nil => rfl
        | cons _ _ => cases ha
    subst this
    split at hr
    · rename_i u h2 hrun
      subst hr
      refine (run_ok hE n g [] _ _ _ hrun _ _ w #[] (simE E.P w) .nil).mono ?_
      rintro e w' ⟨v2, β', rfl, _, _, hv, hf, _⟩
      have := plain_eq 4 hp hv
      subst this
      have ex : Ext w w' := ⟨hf.os, hf.tape, hf.output, hf.size, fun k hk => hf.block k (Nat.not_le.mpr hk)⟩
      refine ⟨_, β, rfl, Up.refl _ β, S.ext ex, VR.plain 4 _ hp, ⟨ex.os, ex.tape, ex.output, ex.size, fun k hk => ex.block k ?_⟩, Lm.refl _⟩
      rcases Nat.lt_or_ge k w.heap.size with q | q
      · exact q
      · exact absurd (S.fresh k q) hk
    · cases hr
  · cases hk

theorem known_framed (v : Value) : Framed (fun _ => known v) := by
  intro S f h g args v' f' m hc
  cases args with
  | nil => cases hc; exact ⟨h, rfl, m, Kept.refl _ _⟩
  | cons _ _ => cases hc
theorem never_framed : Framed (fun _ _ _ => none) := fun S f h g args v' f' m hc => by cases hc

end Go.Proofs.Ytadfhabapgipbaa.V
