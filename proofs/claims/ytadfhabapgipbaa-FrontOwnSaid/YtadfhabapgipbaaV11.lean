/- Every writing operation of the clean machine does what the model's does (append, copy, clear, maps).
   Conditions: it goes through, and heap and frame stand as V2 says. -/
import Derived.Test.YtadfhabapgipbaaV10
namespace Go.Proofs.Ytadfhabapgipbaa.V
open Go
set_option linter.unusedVariables false
set_option linter.unusedSimpArgs false

theorem lenOf_ok {P : Program} {β : Inj} {x x' : Value} (hx : VR β x x') {n : Nat} (h : lenOfV x = some n) (w : World) : (Builtin.lenOf x').run P w = .ok n w := by
  unfold lenOfV at h
  split at h
  · cases h; cases hx <;> rfl
  · cases h; cases hx; rfl
  · cases h

theorem add_zero (a : Addr) : a.add 0 = a := by unfold Addr.add; rw [if_pos rfl]

theorem first_ok {P : Program} {Wr : Nat → Prop} {β : Inj} {hp : Heap} {w : World} (S : Sim P Wr β hp w) {k n : Nat} {x x' : Value} (hx : VR β x x') {c : List Value} (h : firstV hp k n x = some c) :
    ∃ c' : Array Value, VRs β c c'.toList ∧ ∀ w', Ext w w' → (Builtin.firstCells k n x').run P w' = .ok c' w' := by
  unfold firstV at h
  split at h
  · rename_i a l cap
    cases hq : Nat.beq (n * k) 0 with
    | true =>
      rw [hq] at h; simp at h; subst h
      have hq : n * k = 0 := Nat.eq_of_beq_eq_true hq
      refine ⟨#[], .nil, fun w' _ => ?_⟩
      have : ∃ a' l' c', x' = .slice (some a') l' c' := by cases hx <;> exact ⟨_, _, _, rfl⟩
      obtain ⟨a', l', c', rfl⟩ := this
      simp only [Builtin.firstCells, hq]; rfl
    | false =>
      rw [hq] at h; simp only [cond_false] at h
      split at h
      · rename_i b hb
        obtain ⟨a', c', rfl, hA⟩ := sliceAt_ok hx hb
        rw [add_zero] at hA
        obtain ⟨l', e1, e2, e3⟩ := cellsAt_ok S hA h
        refine ⟨l'.toArray, by simpa using e2, fun w' he => ?_⟩
        have := run_loadCells_list (P := P) w' a' l' (fun j v hv => he.cell (e3 j v hv))
        rw [e1] at this
        simp only [Builtin.firstCells, this]
      · cases h
  · cases hx; cases h; exact ⟨#[], .nil, fun w' _ => rfl⟩
  · rename_i s
    cases hx; cases h
    refine ⟨(s.extract 0 n).data.map fun b => .int .u8 b.toNat, ?_, fun w' _ => rfl⟩
    have e : ((s.extract 0 n).data.map fun (b : UInt8) => Value.int .u8 b.toNat).toList = (s.data.toList.take n).map fun b => Value.int .u8 b.toNat := by
      rw [Array.toList_map, ByteArray.data_extract, Array.toList_extract]; simp [List.extract_eq_take_drop]
    rw [e]
    refine VRs.mk (by simp) ?_
    intro i v hv
    simp only [List.getElem?_map] at hv ⊢
    cases hq : (s.data.toList.take n)[i]? with
    | none => rw [hq] at hv; cases hv
    | some b => rw [hq] at hv; simp at hv; subst hv; exact ⟨_, by simp, .int _ _⟩
  · cases h

theorem growBy_le (m : Nat) : ∀ (r c : Nat), c ≤ 2 * m + 1024 → Builtin.growBy m r c ≤ 2 * m + 1024
  | 0, c, h => h
  | r + 1, c, h => by
    simp only [Builtin.growBy]
    split
    · exact h
    · rename_i q; exact growBy_le m r _ (by omega)

theorem next_le {m c : Nat} (h : c < m) : Builtin.nextslicecap m c ≤ 2 * m + 1024 := by
  unfold Builtin.nextslicecap
  split
  · omega
  · split
    · omega
    · exact growBy_le m 4 c (by omega)

/-- What is appended, in the model's words. -/
def appended (E : Env) (elem k n : Nat) (zeros : Bool) (x : Value) : Sem (Array Value) :=
  if !zeros then Builtin.firstCells k n x
  else if n * k = 0 then pure #[]
  else do pure (Builtin.zeroCells (← zeroValue elem).cells n)

theorem new_ok {E : Env} {Wr : Nat → Prop} {β : Inj} {hp : Heap} {w : World} (S : Sim E.P Wr β hp w) {elem k bytes n : Nat} {zeros : Bool} {x x' : Value} (hx : VR β x x') {c : List Value} (h : newV E hp elem k bytes zeros x = some (n, c)) :
    ∃ c' : Array Value, VRs β c c'.toList ∧ (∀ w', Ext w w' → (appended E elem k n zeros x').run E.P w' = .ok c' w') ∧
      (zeros = true → ∃ kk i, x' = .int kk i ∧ 0 ≤ i ∧ i ≤ 140737488355328 ∧ i * bytes ≤ 281474976710656 ∧ n = i.toNat) ∧ (zeros = false → ∀ w, (Builtin.lenOf x').run E.P w = .ok n w) := by
  unfold newV at h
  cases zeros with
  | true =>
    simp only [cond_true] at h
    split at h
    · rename_i kk i
      split at h
      · rename_i hi
        split at h
        · rename_i z hz
          obtain ⟨hq, h⟩ := bif_some h
          have hq : z.cells.size = k := Nat.eq_of_beq_eq_true hq
          cases h
          cases hx
          have hzp := (r_zero (w := w) hz).2
          have hrep := VRs.repZ (cells_ok (VR.plain (β := β) 4 z hzp)) i.toNat
          have e := zrep z.cells i.toNat
          refine ⟨(Array.range (i.toNat * z.cells.size)).map (fun i => z.cells[i % z.cells.size]!), by rw [e]; exact hrep, fun w' _ => ?_, fun _ => ⟨kk, i, rfl, hi.1, hi.2.1, hi.2.2, rfl⟩, (by intro h; cases h)⟩
          simp only [appended, Bool.not_true, Bool.false_eq_true, if_false]
          split
          · rename_i q; rw [hq, q]; simp
          · simp only [Sem.run_bind, (r_zero hz).1, Result.andThen_ok, Sem.run_pure]; rfl
        · cases h
      · cases h
    · cases h
  | false =>
    simp only [cond_false] at h
    split at h
    · rename_i m hm
      split at h
      · rename_i c0 hc
        cases h
        obtain ⟨c', h1, h2⟩ := first_ok S hx hc
        exact ⟨c', h1, (fun w' he => by simp only [appended, Bool.not_false, if_true]; exact h2 w' he), (by intro h; cases h), (fun _ w => lenOf_ok hx hm w)⟩
      · cases h
    · cases h

/-- How a list of types and what is appended lie, where zeros are told. -/
theorem zeros_cases {P : Program} {ts : Array TypeId} {b : Bool} (h : zerosV P ts = some b) : (ts[1]? = none ∧ b = false) ∨ (∃ t d, ts[1]? = some t ∧ P.underlying t = some d ∧ ((∃ k, d = .int k) ∧ b = true ∨ (∀ k, d ≠ .int k) ∧ b = false)) := by
  unfold zerosV at h
  split at h
  · rename_i t ht
    split at h
    · rename_i k hu; cases h; exact .inr ⟨t, _, ht, hu, .inl ⟨⟨_, rfl⟩, rfl⟩⟩
    · rename_i d hd hu; cases h; exact .inr ⟨t, d, ht, hu, .inr ⟨fun k e => hd k e, rfl⟩⟩
    · cases h
  · rename_i ht; cases h; exact .inl ⟨ht, rfl⟩

section
variable {E : Env} {ts : Array TypeId} {sT elem k n : Nat} {zeros : Bool} {base : Option Addr} {len cap : Nat} {x : Value} {T : TypeId} {i : TypeInfo} {w w' : World}

/-- Appended where there is room. -/
theorem append_in (h0 : ts[0]? = some sT) (hu : E.P.underlying sT = some (.slice elem)) (hk : sz E.P elem = some k) (hz : zerosV E.P ts = some zeros) (hi : E.P.info? elem = some i)
    (h1 : zeros = true → ∃ kk j, x = .int kk j ∧ 0 ≤ j ∧ j ≤ 140737488355328 ∧ j * i.bytes ≤ 281474976710656 ∧ n = j.toNat) (h2 : zeros = false → ∀ w, (Builtin.lenOf x).run E.P w = .ok n w)
    {new : Array Value} (hn : ∀ w', Ext w w' → (appended E elem k n zeros x).run E.P w' = .ok new w') (hc : len + n ≤ cap)
    (hs : (match base with | some a => Go.storeCells (a.add (len * k)) new.toList | none => pure () : Sem Unit).run E.P w = .ok () w') :
    (Builtin.append_ ts T #[.slice base len cap, x]).run E.P w = .ok (.slice base (len + n) cap) w' := by
  have e0 : (#[Value.slice base len cap, x] : Array Value)[0]? = some (.slice base len cap) := rfl
  have e1 : (#[Value.slice base len cap, x] : Array Value)[1]? = some x := rfl
  have hn := hn w (Ext.refl w)
  have fin : (match (generalizing := false) base with
      | some a => do
        Go.storeCells (a.add (len * k)) new.toList
        pure (Value.slice base (len + n) cap)
      | x => pure (Value.slice base (len + n) cap) : Sem Value).run E.P w = .ok (.slice base (len + n) cap) w' := by
    cases base with
    | none => simp only [Sem.run_pure] at hs ⊢; cases hs; rfl
    | some a => simp only [Sem.run_bind, hs, Result.andThen_ok, Sem.run_pure]
  unfold Builtin.append_
  rcases zeros_cases hz with ⟨ht, rfl⟩ | ⟨t, d, ht, hd, ⟨⟨kk, rfl⟩, rfl⟩ | ⟨hni, rfl⟩⟩
  · simp only [appended, Bool.not_false, if_true] at hn
    simp only [h0, e0, e1, ht, Sem.run_bind, Sem.run_pure, Result.andThen_ok, r_underlying hu, r_size hk, h2 rfl, hn, if_pos hc, Bool.not_false, if_true, Bool.false_eq_true, if_false]
    exact fin
  · obtain ⟨kk', j, rfl, j0, j1, j2, rfl⟩ := h1 rfl
    have wj : IntKind.i64.wrap j = j := wrap_i64 (by omega) (by omega)
    have q1 : ¬ j < 0 := by omega
    have q2 : ¬ j * (i.bytes : Int) > 2 ^ 48 := by omega
    simp only [appended, Bool.not_true, Bool.false_eq_true, if_false] at hn
    simp only [h0, e0, e1, ht, Sem.run_bind, Sem.run_pure, Result.andThen_ok, r_underlying hu, r_underlying hd, r_size hk, asInt, asIntOf, wj, if_neg q1, r_info hi, if_neg q2, if_pos hc, Bool.not_true, if_true, Bool.false_eq_true, if_false, hn]
    exact fin
  · simp only [appended, Bool.not_false, if_true] at hn
    cases d <;> first
      | exact (hni _ rfl).elim
      | (simp only [h0, e0, e1, ht, Sem.run_bind, Sem.run_pure, Result.andThen_ok, r_underlying hu, r_underlying hd, r_size hk, h2 rfl, hn, if_pos hc, Bool.not_false, if_true, Bool.false_eq_true, if_false]
         exact fin)

/-- Appended where there is none. -/
theorem append_out (h0 : ts[0]? = some sT) (hu : E.P.underlying sT = some (.slice elem)) (hk : sz E.P elem = some k) (hz : zerosV E.P ts = some zeros) (hi : E.P.info? elem = some i)
    (h1 : zeros = true → ∃ kk j, x = .int kk j ∧ 0 ≤ j ∧ j ≤ 140737488355328 ∧ j * i.bytes ≤ 281474976710656 ∧ n = j.toNat) (h2 : zeros = false → ∀ w, (Builtin.lenOf x).run E.P w = .ok n w)
    {new old : Array Value} (hn : ∀ w', Ext w w' → (appended E elem k n zeros x).run E.P w' = .ok new w') (ho : ∀ w', Ext w w' → (Builtin.firstCells k len (.slice base len cap)).run E.P w' = .ok old w')
    {z : Value} (hzv : ∀ w, (zeroValue elem).run E.P w = .ok z w) (hc : cap < len + n) (hb : 0 < i.bytes) (hr : (2 * (len + n) + 1024) * i.bytes ≤ 281474976710656) :
    ∃ newCap drawn', len + n ≤ newCap ∧ (Builtin.append_ ts T #[.slice base len cap, x]).run E.P w = .ok (.slice (some ⟨w.heap.size, 0, none⟩) (len + n) newCap)
      { w with drawn := drawn', heap := w.heap.push (.cells (old ++ new ++ Builtin.zeroCells z.cells (newCap - (len + n))) elem) } := by
  have e0 : (#[Value.slice base len cap, x] : Array Value)[0]? = some (.slice base len cap) := rfl
  have e1 : (#[Value.slice base len cap, x] : Array Value)[1]? = some x := rfl
  have hext : Ext w { w with drawn := w.drawn + 1 } := ⟨rfl, rfl, rfl, Nat.le_refl _, fun _ _ => rfl⟩
  have hn := hn _ hext
  have ho := ho _ hext
  have hc' : ¬ len + n ≤ cap := by omega
  have hbm : i.bytes ≤ (2 * (len + n) + 1024) * i.bytes := Nat.le_mul_of_pos_left _ (by omega)
  have hlm : 2 * (len + n) + 1024 ≤ (2 * (len + n) + 1024) * i.bytes := Nat.le_mul_of_pos_right _ hb
  have q3 : (((len + n : Nat) : Int) > IntKind.i64.max) = False := by
    have : IntKind.i64.max = 9223372036854775807 := by decide
    rw [this]; exact eq_false (by omega)
  have q4 : ¬ Builtin.nextslicecap (len + n) cap * i.bytes > 2 ^ 48 := by
    have := Nat.mul_le_mul_right i.bytes (next_le hc)
    omega
  have hch : ∀ w : World, (choose (.appendCap (len + n) cap elem)).run E.P w = .ok (Question.cut (.appendCap (len + n) cap elem) (w.tape w.drawn (.appendCap (len + n) cap elem))) { w with drawn := w.drawn + 1 } := by
    intro w; rw [run_choose]; simp [Question.forced]
  refine ⟨Question.cut (.appendCap (len + n) cap elem) (w.tape w.drawn (.appendCap (len + n) cap elem)), w.drawn + 1, by simp [Question.cut], ?_⟩
  unfold Builtin.append_
  rcases zeros_cases hz with ⟨ht, rfl⟩ | ⟨t, d, ht, hd, ⟨⟨kk, rfl⟩, rfl⟩ | ⟨hni, rfl⟩⟩
  · simp only [appended, Bool.not_false, if_true] at hn
    simp only [h0, e0, e1, ht, Sem.run_bind, Sem.run_pure, Result.andThen_ok, r_underlying hu, r_size hk, h2 rfl, if_neg hc', r_info hi, q3, false_and, if_false, if_neg q4, hch, run_askRoom, ho, hn, hzv, Bool.not_false, if_true, Bool.false_eq_true, if_false, newRow, run_newObj]
  · obtain ⟨kk', j, rfl, j0, j1, j2, rfl⟩ := h1 rfl
    have wj : IntKind.i64.wrap j = j := wrap_i64 (by omega) (by omega)
    have q1 : ¬ j < 0 := by omega
    have q2 : ¬ j * (i.bytes : Int) > 2 ^ 48 := by omega
    simp only [appended, Bool.not_true, Bool.false_eq_true, if_false] at hn
    simp only [h0, e0, e1, ht, Sem.run_bind, Sem.run_pure, Result.andThen_ok, r_underlying hu, r_underlying hd, r_size hk, asInt, asIntOf, wj, if_neg q1, r_info hi, if_neg q2, if_neg hc', q3, false_and, if_false, if_neg q4, hch, run_askRoom, ho, hn, hzv, Bool.not_true, if_true, Bool.false_eq_true, if_false, newRow, run_newObj]
  · simp only [appended, Bool.not_false, if_true] at hn
    cases d <;> first
      | exact (hni _ rfl).elim
      | simp only [h0, e0, e1, ht, Sem.run_bind, Sem.run_pure, Result.andThen_ok, r_underlying hu, r_underlying hd, r_size hk, h2 rfl, if_neg hc', r_info hi, q3, false_and, if_false, if_neg q4, hch, run_askRoom, ho, hn, hzv, Bool.not_false, if_true, Bool.false_eq_true, if_false, newRow, run_newObj]

end

end Go.Proofs.Ytadfhabapgipbaa.V
