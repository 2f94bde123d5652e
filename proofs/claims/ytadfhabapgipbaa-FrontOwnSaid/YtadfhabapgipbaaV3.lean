/- The clean machine's reading operations do what the model's do.
   Conditions: the clean operation yields a value, and heap and frame stand as V2 says; of struct types that are compared: EqOK. -/
import Derived.Test.YtadfhabapgipbaaV2
namespace Go.Proofs.Ytadfhabapgipbaa.V
open Go
set_option linter.unusedVariables false
set_option linter.unusedSimpArgs false

/-- '==' of structs that the environment names is cell by cell. -/
def EqOK (E : Env) : Prop := ∀ t ks, E.eqT t = some ks → ∀ (x y : Array Value) (b : Bool) (X Y : Operand), ckAll ks x.toList y.toList = some b → ∀ w,
  (eqGuard .eql t X Y (.agg x) (.agg y)).run E.P w = .ok () w ∧ (eqGuard .neq t X Y (.agg x) (.agg y)).run E.P w = .ok () w ∧ (Op.equal t (.agg x) (.agg y)).run E.P w = .ok b w

section
variable {P : Program} {w : World}
theorem r_underlying {t : TypeId} {d : TypeDesc} (h : P.underlying t = some d) : (underlying t).run P w = .ok d w := by simp [underlying, h]
theorem r_info {t : TypeId} {d : TypeInfo} (h : P.info? t = some d) : (typeInfo t).run P w = .ok d w := by simp [typeInfo, h]
theorem r_size {t : TypeId} {k : Nat} (h : sz P t = some k) : (sizeOf t).run P w = .ok k w := by
  unfold sz at h; split at h <;> simp at h
  rename_i i hi; simp [sizeOf, r_info hi, h]
theorem sz_cells {t : TypeId} {k : Nat} (h : sz P t = some k) : P.cellsOf t = k := by
  unfold sz at h; split at h <;> simp at h
  rename_i i hi; simp [Program.cellsOf, hi, h]
theorem r_zero {t : TypeId} {z : Value} (h : zeroOf P t = some z) : (zeroValue t).run P w = .ok z w ∧ plainN 4 z = true := by
  unfold zeroOf at h
  cases hi : P.info? t with
  | none => rw [hi] at h; cases h
  | some i =>
    rw [hi] at h; simp only at h
    cases hy : i.zero with
    | none => rw [hy] at h; cases h
    | some y =>
      rw [hy] at h; simp only at h
      cases hp : plainN 4 y with
      | false => rw [hp] at h; cases h
      | true => rw [hp] at h; simp at h; subst h; simp [zeroValue, r_info hi, hy, hp]
theorem r_isAgg {t : TypeId} {b : Bool} (h : isAggT P t = some b) : (isAgg t).run P w = .ok b w := by
  unfold isAggT at h; split at h <;> simp at h
  · rename_i hu; subst h; simp [isAgg, r_underlying hu]
  · rename_i hu; subst h; simp [isAgg, r_underlying hu]
  · rename_i d h1 h2 hu; subst h
    simp only [isAgg, Sem.run_bind, r_underlying hu, Result.andThen_ok]
    cases d <;> first | rfl | exact (h1 _ rfl).elim | exact (h2 _ _ rfl).elim
end

/-! ### Cells -/
theorem Addr.add_none (B o n : Nat) : (Addr.add ⟨B, o, none⟩ n) = ⟨B, o + n, none⟩ := by
  unfold Addr.add; split
  · rename_i h; subst h; rfl
  · rfl

theorem cell_of {w : World} {B o : Nat} {C : Array Value} {T : TypeId} {fr : Nat × Nat} (h : w.heap[B]? = some (.cells C T fr)) : w.cell? ⟨B, o, none⟩ = C[o]? := by
  unfold World.cell?; rw [h]; rfl

theorem cellAt_ok {P : Program} {Wr : Nat → Prop} {β : Inj} {h : Heap} {w : World} (S : Sim P Wr β h w) {a a' : Addr} (ha : AR β a a') {v : Value} (hv : cellAt h a = some v) : ∃ v', w.cell? a' = some v' ∧ VR β v v' := by
  cases ha with
  | @new b o B s N k hb =>
    simp only [cellAt] at hv
    split at hv
    · rename_i c T hg
      obtain ⟨B', s', C, fr, h1, h2, h3, h4, h5⟩ := S.live _ _ _ hg
      rw [hb] at h1; cases h1
      rw [cell_of h2]; exact h5 _ _ hv
    · cases hv
  | base =>
    simp only [cellAt] at hv
    obtain ⟨_, v', h2, h3⟩ := S.base _ _ _ hv
    exact ⟨v', h2, h3 β⟩
  | odd => simp [cellAt] at hv

theorem baseCells_ok {P : Program} {Wr : Nat → Prop} {β : Inj} {h : Heap} {w : World} (S : Sim P Wr β h w) (b : Nat) : ∀ (n o : Nat) (l : List Value), baseCells h b o n = some l →
    ∃ l' : List Value, l'.length = n ∧ VRs β l l' ∧ ∀ (j : Nat) (v : Value), l'[j]? = some v → w.cell? ⟨b, o + j, none⟩ = some v
  | 0, o, l, hl => by simp [baseCells] at hl; subst hl; exact ⟨[], rfl, .nil, by simp⟩
  | n + 1, o, l, hl => by
    simp only [baseCells] at hl
    split at hl
    · rename_i v hv
      split at hl
      · rename_i r hr
        simp at hl; subst hl
        obtain ⟨_, v', h2, h3⟩ := S.base _ _ _ hv
        obtain ⟨l', e1, e2, e3⟩ := baseCells_ok S b n (o + 1) r hr
        refine ⟨v' :: l', by simp [e1], .cons (h3 β) e2, ?_⟩
        intro j u hu
        cases j with
        | zero => simp at hu; subst hu; simpa using h2
        | succ j => simp at hu; have := e3 j u hu; rw [show o + (j + 1) = o + 1 + j by omega]; exact this
      · cases hl
    · cases hl

/-- What is read of n cells, on the model's side. -/
theorem cellsAt_ok {P : Program} {Wr : Nat → Prop} {β : Inj} {h : Heap} {w : World} (S : Sim P Wr β h w) {a a' : Addr} (ha : AR β a a') {n : Nat} {l : List Value} (hl : cellsAt h a n = some l) :
    ∃ l' : List Value, l'.length = n ∧ VRs β l l' ∧ ∀ (j : Nat) (v : Value), l'[j]? = some v → w.cell? (a'.add j) = some v := by
  cases ha with
  | @new b o B s N k hb =>
    simp only [cellsAt] at hl
    split at hl
    · rename_i c T hg
      obtain ⟨B', s', C, fr, h1, h2, h3, h4, h5⟩ := S.live _ _ _ hg
      rw [hb] at h1; cases h1
      cases hn : Nat.ble (o + n) c.length with
      | false => rw [hn] at hl; simp at hl
      | true =>
        rw [hn] at hl; simp at hl; subst hl
        have hn : o + n ≤ c.length := Nat.le_of_ble_eq_true hn
        refine ⟨((C.toList.drop (s + o)).take n), by simp; omega, ?_, ?_⟩
        · refine VRs.mk (by simp; omega) ?_
          intro i v hv
          simp only [List.getElem?_take, List.getElem?_drop] at hv ⊢
          split at hv
          · rename_i hi
            rw [if_pos hi]
            obtain ⟨v', e1, e2⟩ := h5 _ _ hv
            exact ⟨v', by rw [Array.getElem?_toList, ← e1]; congr 1; omega, e2⟩
          · cases hv
        · intro j v hv
          simp only [List.getElem?_take, List.getElem?_drop] at hv
          split at hv
          · rw [Addr.add_none, cell_of h2, ← hv, Array.getElem?_toList]
          · cases hv
    · cases hl
  | base =>
    simp only [cellsAt] at hl
    obtain ⟨l', h1, h2, h3⟩ := baseCells_ok S _ _ _ _ hl
    exact ⟨l', h1, h2, fun j v hv => by rw [Addr.add_none]; exact h3 j v hv⟩
  | odd => simp [cellsAt] at hl

theorem loadV_ok {E : Env} {Wr : Nat → Prop} {β : Inj} {h : Heap} {w : World} (S : Sim E.P Wr β h w) {a a' : Addr} (ha : AR β a a') {t : TypeId} {v : Value} (hv : loadV E h t a = some v) :
    ∃ v', VR β v v' ∧ ∀ w', Ext w w' → (loadVar t a').run E.P w' = .ok v' w' := by
  unfold loadV at hv
  split at hv
  · rename_i hA
    split at hv
    · rename_i n hn
      split at hv
      · rename_i l hl
        simp at hv; subst hv
        obtain ⟨l', e1, e2, e3⟩ := cellsAt_ok S ha hl
        refine ⟨.agg l'.toArray, .agg (by simpa using e2), fun w' he => ?_⟩
        have := run_loadCells_list (P := E.P) w' a' l' (fun j v hv => he.cell (e3 j v hv))
        rw [e1] at this
        simp [loadVar, r_isAgg hA, r_size hn, this]
      · cases hv
    · cases hv
  · rename_i hA
    obtain ⟨v', e1, e2⟩ := cellAt_ok S ha hv
    refine ⟨v', e2, fun w' he => ?_⟩
    simp [loadVar, r_isAgg hA, he.cell e1]
  · cases hv

theorem partV_ok {E : Env} {β : Inj} {t : TypeId} {cs cs' : Array Value} (hc : VRs β cs.toList cs'.toList) {off : Nat} {v : Value} (hv : partV E t cs.toList off = some v) :
    ∃ v', VR β v v' ∧ ∀ w', (part t cs' off).run E.P w' = .ok v' w' := by
  unfold partV at hv
  split at hv
  · rename_i hA
    split at hv
    · rename_i n hn
      simp at hv; subst hv
      refine ⟨.agg (cs'.extract off (off + n)), .agg ?_, fun w' => by simp [part, r_isAgg hA, r_size hn]⟩
      have e : (cs'.extract off (off + n)).toList = (cs'.toList.drop off).take n := by
        rw [Array.toList_extract]; simp [List.extract_eq_take_drop]
      have e2 : (((cs.toList.drop off).take n).toArray).toList = (cs.toList.drop off).take n := by simp
      rw [e, e2]; exact (hc.drop off).take n
    · cases hv
  · rename_i hA
    obtain ⟨v', h1, h2⟩ := hc.get off hv
    refine ⟨v', h2, fun w' => ?_⟩
    have : cs'[off]? = some v' := by rw [← Array.getElem?_toList]; exact h1
    simp [part, r_isAgg hA, this]
  · cases hv

end Go.Proofs.Ytadfhabapgipbaa.V
