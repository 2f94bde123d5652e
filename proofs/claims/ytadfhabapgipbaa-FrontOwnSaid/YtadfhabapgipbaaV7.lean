/- The clean machine's reading operations do what the model's do (literals, built-ins), all together.
   Conditions: the clean operation yields a value, and heap and frame stand as V2 says; of struct types that are compared: EqOK. -/
import Derived.Test.YtadfhabapgipbaaV6
namespace Go.Proofs.Ytadfhabapgipbaa.V
open Go
set_option linter.unusedVariables false
set_option linter.unusedSimpArgs false

inductive PRs (β : Inj) : List (Nat × Value) → List (Nat × Value) → Prop
  | nil : PRs β [] []
  | cons (i : Nat) {v v' : Value} {l l' : List (Nat × Value)} (h : VR β v v') (r : PRs β l l') : PRs β ((i, v) :: l) ((i, v') :: l')

theorem evParts_ok {β : Inj} {nt : Nat} {fr : Fr} {a : Act} (h : FR β nt fr a) : ∀ {l : List (Nat × Operand)} {vs : List (Nat × Value)}, evParts fr l = some vs → PRs β vs (l.map fun x => (x.1, a.eval x.2))
  | [], _, hx => by simp [evParts] at hx; subst hx; exact .nil
  | (i, x) :: r, vs, hx => by
    simp only [evParts] at hx
    cases h1 : ev fr x with
    | none => rw [h1] at hx; simp at hx
    | some v =>
      cases h2 : evParts fr r with
      | none => rw [h1, h2] at hx; simp at hx
      | some l =>
        rw [h1, h2] at hx; simp at hx; subst hx
        exact .cons i (ev_ok h h1) (evParts_ok h h2)

theorem splice_len (c : List Value) (off : Nat) (vs : List Value) (h : off + vs.length ≤ c.length) : (splice c off vs).length = c.length := by
  unfold splice; simp; omega

theorem splice_get (c : List Value) (off : Nat) (vs : List Value) (h : off + vs.length ≤ c.length) (i : Nat) :
    (splice c off vs)[i]? = if off ≤ i ∧ i < off + vs.length then vs[i - off]? else c[i]? := by
  unfold splice
  by_cases h1 : i < off
  · rw [List.getElem?_append_left (by simp; omega), if_neg (by omega), List.getElem?_take, if_pos h1]
  · rw [List.getElem?_append_right (by simp; omega)]
    have e : (c.take off).length = off := by simp; omega
    rw [e]
    by_cases h2 : i < off + vs.length
    · rw [List.getElem?_append_left (by omega), if_pos ⟨by omega, h2⟩]
    · rw [List.getElem?_append_right (by omega), if_neg (by omega), List.getElem?_drop]
      congr 1; omega

theorem foldl_set (off : Nat) : ∀ (l : List Value) (j0 : Nat) (cs : Array Value), off + j0 + l.length ≤ cs.size →
    ((l.zipIdx j0).foldl (fun cs (x : Value × Nat) => cs.setIfInBounds (off + x.2) x.1) cs).toList = splice cs.toList (off + j0) l
  | [], j0, cs, h => by simp [splice]
  | v :: l, j0, cs, h => by
    simp only [List.zipIdx_cons, List.foldl_cons]
    rw [foldl_set off l (j0 + 1) _ (by simp at h ⊢; omega)]
    apply List.ext_getElem?
    intro i
    simp only [List.length_cons] at h
    rw [splice_get _ _ _ (by simp; omega), splice_get _ _ _ (by simp; omega)]
    simp only [Array.toList_setIfInBounds, List.getElem?_set, List.length_cons, Array.length_toList]
    by_cases e : i = off + j0
    · subst e
      rw [if_neg (by omega), if_pos rfl, if_pos (by omega), if_pos (by omega)]; simp
    · by_cases h1 : off + (j0 + 1) ≤ i ∧ i < off + (j0 + 1) + l.length
      · rw [if_pos h1, if_pos (by omega)]
        rw [show i - (off + j0) = (i - (off + (j0 + 1))) + 1 by omega]; simp
      · rw [if_neg h1, if_neg (by omega), if_neg (by omega)]

theorem fill_ok {β : Inj} (place : Nat → Option (Nat × Nat)) : ∀ (parts parts' : List (Nat × Value)) (cells : List Value) (cells' : Array Value) (l : List Value), PRs β parts parts' → VRs β cells cells'.toList → fillL place cells parts = some l →
    ∃ c', Instr.fill place cells' parts' = some c' ∧ VRs β l c'.toList
  | _, _, cells, cells', l, .nil, hc, h => by simp [fillL] at h; subst h; exact ⟨cells', by simp [Instr.fill], hc⟩
  | _, _, cells, cells', l, .cons i (v := v) (v' := v') hv r, hc, h => by
    simp only [fillL] at h
    split at h
    · cases h
    · rename_i off size hp
      obtain ⟨hb, h⟩ := bif_some h
      rw [Bool.and_eq_true] at hb
      have h1 : v.cells.size = size := Nat.eq_of_beq_eq_true hb.1
      have h2 : off + size ≤ cells.length := Nat.le_of_ble_eq_true hb.2
      have hcv := cells_ok hv
      have e1 : v'.cells.size = size := by have := hcv.len; simp at this; omega
      have e2 : cells'.size = cells.length := by have := hc.len; simp at this; omega
      have e3 : (v'.cells.zipIdx.foldl (fun cs (x : Value × Nat) => cs.setIfInBounds (off + x.2) x.1) cells').toList = splice cells'.toList off v'.cells.toList := by
        rw [← Array.foldl_toList, Array.toList_zipIdx]
        have := foldl_set off v'.cells.toList 0 cells' (by simp; omega)
        simpa using this
      obtain ⟨c', g1, g2⟩ := fill_ok place _ _ (splice cells off v.cells.toList) (v'.cells.zipIdx.foldl (fun cs (x : Value × Nat) => cs.setIfInBounds (off + x.2) x.1) cells') l r (by rw [e3]; exact hc.splice hcv off) h
      refine ⟨c', ?_, g2⟩
      simp only [Instr.fill, hp]
      rw [if_neg (by simp; omega)]
      exact g1

theorem places_run {P : Program} {w : World} : ∀ (fs : List Field) (pl : List (Nat × Nat)), placesOf P fs = some pl →
    (fs.mapM fun f => do pure (f.offset, ← sizeOf f.type) : Sem (List (Nat × Nat))).run P w = .ok pl w
  | [], pl, h => by simp [placesOf] at h; subst h; rfl
  | f :: r, pl, h => by
    simp only [placesOf] at h
    split at h
    · rename_i k hk
      split at h
      · rename_i l hl
        simp at h; subst h
        have := places_run (w := w) r l hl
        simp only [List.mapM_cons, Sem.run_bind, r_size hk, Result.andThen_ok, Sem.run_pure, this]
      · cases h
    · cases h

theorem buildV_ok {E : Env} {β : Inj} {t : TypeId} {parts : List (Nat × Value)} {parts' : Array (Nat × Value)} (hp : PRs β parts parts'.toList) {v : Value} (h : buildV E t parts = some v) :
    ∃ v', VR β v v' ∧ ∀ w', (Instr.build t parts').run E.P w' = .ok v' w' := by
  unfold buildV at h
  split at h
  · cases h
  · rename_i z hz
    have hzp := (r_zero (w := default) hz).2
    have hzc := cells_ok (VR.plain (β := β) 4 z hzp)
    split at h
    · rename_i fs hu
      split at h
      · rename_i pl hpl
        split at h
        · rename_i c hc
          cases h
          obtain ⟨c', g1, g2⟩ := fill_ok _ _ _ _ _ _ hp hzc hc
          refine ⟨.agg c', .agg (by simpa using g2), fun w' => ?_⟩
          have hpr := places_run (P := E.P) (w := w') _ _ hpl
          have e : (fun (i : Nat) => pl[i]?) = (fun (i : Nat) => pl.toArray[i]?) := by funext i; simp
          rw [e] at g1
          simp only [Instr.build, Sem.run_bind, (r_zero hz).1, Result.andThen_ok, r_underlying hu, Array.mapM_eq_mapM_toList, Sem.run_map, hpr, g1, Sem.run_pure]
        · cases h
      · cases h
    · rename_i n elem hu
      split at h
      · rename_i k hk
        split at h
        · rename_i c hc
          cases h
          obtain ⟨c', g1, g2⟩ := fill_ok _ _ _ _ _ _ hp hzc hc
          refine ⟨.agg c', .agg (by simpa using g2), fun w' => ?_⟩
          simp only [Instr.build, Sem.run_bind, (r_zero hz).1, Result.andThen_ok, r_underlying hu, r_size hk, g1, Sem.run_pure]
        · cases h
      · cases h
    · cases h

theorem convV_ok {E : Env} {β : Inj} {x x' v : Value} (hx : VR β x x') {src dst : TypeId} (h : convV E src dst x = some v) : VR β v v ∧ ∀ w', (convert src dst x').run E.P w' = .ok v w' := by
  unfold convV at h
  split at h
  · rename_i s k kk n h1 h2
    cases hx; cases h
    exact ⟨.int _ _, fun w' => by simp [convert, r_underlying h1, r_underlying h2, Conv.intToInt]⟩
  · rename_i d s h1 h2
    cases hx; cases h
    exact ⟨.string _, fun w' => by simp [convert, r_underlying h1, r_underlying h2]⟩
  · cases h

theorem lenV_ok {E : Env} {Wr : Nat → Prop} {β : Inj} {hp : Heap} {w : World} (S : Sim E.P Wr β hp w) {ts : Array TypeId} {t T : TypeId} (ht : ts[0]? = some t) {x x' v : Value} (hx : VR β x x') (h : lenV E hp t x = some v) :
    VR β v v ∧ ∀ w', Ext w w' → (Builtin.len_ ts T #[x']).run E.P w' = .ok v w' := by
  unfold lenV at h
  split at h
  · rename_i s hu
    cases hx; cases h
    exact ⟨.int _ _, fun w' _ => by simp [Builtin.len_, ht, r_underlying hu]⟩
  · rename_i e a n c hu
    cases h
    refine ⟨.int _ _, fun w' _ => ?_⟩
    cases hx <;> simp [Builtin.len_, ht, r_underlying hu]
  · rename_i k e hu
    split at h
    · rename_i es hes
      cases h
      unfold mapOf at hes
      split at hes
      · cases hx; cases hes
        exact ⟨.int _ _, fun w' _ => by simp [Builtin.len_, ht, r_underlying hu]⟩
      · rename_i r
        cases hx with | @map _ B hB => ?_
        split at hes
        · rename_i es' hg
          cases hes
          obtain ⟨B', ents, clock, g1, g2, g3⟩ := S.liveM _ _ hg
          rw [hB] at g1; cases g1
          refine ⟨.int _ _, fun w' he => ?_⟩
          have hh := he.get g2
          have : (getObj B).run E.P w' = .ok (.map ents clock) w' := by simp [getObj, Sem.run, hh]
          have hl : es.length = ents.size := by
            have : ∀ (es : List (Value × Value)) (l : List MapEntry), MRs β es l → es.length = l.length := by
              intro es
              induction es with
              | nil => intro l h; cases l <;> simp [MRs] at h ⊢
              | cons e es ih => intro l h; cases l with
                | nil => simp [MRs] at h
                | cons x l => simp [ih l h.2.2]
            simpa using this _ _ g3
          simp [Builtin.len_, ht, r_underlying hu, this, hl]
        · cases hes
      · cases hes
    · cases h
  · rename_i n e hu
    cases h
    refine ⟨.int _ _, fun w' _ => ?_⟩
    simp [Builtin.len_, ht, r_underlying hu]
  · cases h

theorem capV_ok {E : Env} {β : Inj} {ts : Array TypeId} {t T : TypeId} (ht : ts[0]? = some t) {x x' v : Value} (hx : VR β x x') (h : capV E t x = some v) :
    VR β v v ∧ ∀ w', (Builtin.cap_ ts T #[x']).run E.P w' = .ok v w' := by
  unfold capV at h
  split at h
  · rename_i e l n hu
    cases h
    refine ⟨.int _ _, fun w' => ?_⟩
    cases hx; simp [Builtin.cap_, ht, r_underlying hu]
  · rename_i e a l n hu
    cases hx with
    | @slice a a' hA l0 c0 =>
      cases hA with
      | new hb => simp at h; subst h; exact ⟨.int _ _, fun w' => by simp [Builtin.cap_, ht, r_underlying hu]⟩
      | base => simp at h; subst h; exact ⟨.int _ _, fun w' => by simp [Builtin.cap_, ht, r_underlying hu]⟩
      | odd => simp at h
    | slack _ _ _ _ => simp at h
    | opq _ _ => simp at h
  · cases h

theorem max2_ok {P : Program} {β : Inj} {x x' y y' v : Value} (hx : VR β x x') (hy : VR β y y') (h : max2V x y = some v) : VR β v v ∧ ∀ w, (Builtin.max2 x' y').run P w = .ok v w := by
  unfold max2V at h
  split at h
  · cases hx; cases hy; cases h
    exact ⟨.int _ _, fun w => by simp [Builtin.max2]⟩
  · cases hx; cases hy; cases h
    exact ⟨.string _, fun w => by simp [Builtin.max2, Op.stringOp, asBool]⟩
  · cases h

theorem min2_ok {P : Program} {β : Inj} {x x' y y' v : Value} (hx : VR β x x') (hy : VR β y y') (h : min2V x y = some v) : VR β v v ∧ ∀ w, (Builtin.min2 x' y').run P w = .ok v w := by
  unfold min2V at h
  split at h
  · cases hx; cases hy; cases h
    exact ⟨.int _ _, fun w => by simp [Builtin.min2]⟩
  · cases hx; cases hy; cases h
    exact ⟨.string _, fun w => by simp [Builtin.min2, Op.stringOp, asBool]⟩
  · cases h

theorem fold_ok {P : Program} {β : Inj} {f : Value → Value → Option Value} {g : Value → Value → Sem Value} (hf : ∀ x x' y y' v, VR β x x' → VR β y y' → f x y = some v → VR β v v ∧ ∀ w, (g x' y').run P w = .ok v w) :
    ∀ (l l' : List Value) (x x' v : Value), VRs β l l' → VR β x x' → foldV f x l = some v → ∃ v', VR β v v' ∧ ∀ w, (l'.foldlM g x').run P w = .ok v' w
  | [], _, x, x', v, h1, h2, h => by cases h1; simp [foldV] at h; subst h; exact ⟨x', h2, fun w => rfl⟩
  | y :: l, _, x, x', v, h1, h2, h => by
    cases h1 with | @cons _ y' _ l' hy r => ?_
    simp only [foldV] at h
    split at h
    · rename_i z hz
      obtain ⟨e1, e2⟩ := hf _ _ _ _ _ h2 hy hz
      obtain ⟨v', g1, g2⟩ := fold_ok hf l l' z z v r e1 h
      exact ⟨v', g1, fun w => by simp only [List.foldlM_cons, Sem.run_bind, e2, Result.andThen_ok, g2]⟩
    · cases h

end Go.Proofs.Ytadfhabapgipbaa.V
