/- Every writing operation of the clean machine does what the model's does (first part). .. and what follows it, in one text.
   No condition beyond those that each part names. -/
import Derived.Test.YtokfjifeofpkkaaGreatV9
namespace Go.Proofs.YtokfjifeofpkkaaGreat.V
open Go
set_option linter.unusedVariables false
set_option linter.unusedSimpArgs false
def WOut (P : Program) (Wr : Nat → Prop) (β : Inj) (hp : Heap) (w : World) (hp' : Heap) (v : Value) (s : Sem Value) : Prop :=
 ∃ β' w' v', Up hp.n β β' ∧ Sim P Wr β' hp' w' ∧ VR β' v v' ∧ FrameW Wr w w' ∧ Lm hp hp' ∧ s.run P w = .ok v' w'
theorem repZ_len (z : List Value) : ∀ n, (repZ z n).length = n * z.length
 | 0 => by simp [repZ]
 | n + 1 => by simp [repZ, repZ_len z n, Nat.add_mul]; omega
theorem repZ_get (z : List Value) : ∀ (n i : Nat), i < n * z.length → (repZ z n)[i]? = z[i % z.length]?
 | 0, i, h => by simp at h
 | n + 1, i, h => by
  have hz : 0 < z.length := Nat.pos_of_ne_zero (fun e => by simp [e] at h)
  rw [Nat.add_mul, Nat.one_mul] at h
  simp only [repZ]
  by_cases q : i < z.length
  ·
   rw [List.getElem?_append_left q, Nat.mod_eq_of_lt q]
  ·
   rw [List.getElem?_append_right (by omega), repZ_get z n _ (by omega)]
   congr 1
   exact (Nat.mod_eq_sub_mod (by omega)).symm
theorem zrep (z : Array Value) (n : Nat) : ((Array.range (n * z.size)).map (fun i => z[i % z.size]!)).toList = repZ z.toList n := by
 apply List.ext_getElem?
 intro i
 by_cases q : i < n * z.size
 ·
  have hz : 0 < z.size := Nat.pos_of_ne_zero (fun e => by simp [e] at q)
  have hm := Nat.mod_lt i hz
  rw [repZ_get _ _ _ (by simpa using q)]
  simp [q, hm]
 ·
  have e1 : (repZ z.toList n)[i]? = none := by rw [List.getElem?_eq_none]; rw [repZ_len]; simp; omega
  rw [e1]; simp; omega
theorem VRs.repZ {β : Inj} {z z' : List Value} (h : VRs β z z') : ∀ n, VRs β (V.repZ z n) (V.repZ z' n)
 | 0 => .nil
 | n + 1 => h.append (VRs.repZ h n)
theorem newRow_ok {P : Program} {Wr : Nat → Prop} {β : Inj} {hp : Heap} {w : World} (S : Sim P Wr β hp w) {c : List Value} {C : Array Value} (hc : VRs β c C.toList) (T : TypeId) :
 ∃ β' w', Up hp.n β β' ∧ β' hp.n = some ⟨w.heap.size, 0, C.size, P.cellsOf T⟩ ∧ Sim P Wr β' (hp.alloc (.cells c T)) w' ∧ FrameW Wr w w' ∧ (newRow T C).run P w = .ok ⟨w.heap.size, 0, none⟩ w' := by
 have hl := hc.len
 obtain ⟨β', h1, h2, h3, h4⟩ := S.alloc (c := c) (C := C) (T := T) (w' := { w with heap := w.heap.push (.cells C T) }) (by simp at hl; omega)
  (fun i v hv => by obtain ⟨v', e1, e2⟩ := hc.get i hv; exact ⟨v', by simpa using e1, e2⟩) rfl rfl rfl rfl
 exact ⟨β', _, h1, h2, h3, h4, rfl⟩
theorem ptr_new {β : Inj} {n B N k : Nat} (h : β n = some ⟨B, 0, N, k⟩) : VR β (ptrTo n) (.pointer (some ⟨B, 0, none⟩)) := by
 have := AR.new (o := 0) h
 unfold ptrTo
 simpa using VR.ptr this
theorem alloc_ok {E : Env} {Wr : Nat → Prop} {β : Inj} {hp : Heap} {w : World} (S : Sim E.P Wr β hp w) {t : TypeId} {z : Value} (hz : zeroOf E.P t = some z) :
 WOut E.P Wr β hp w (hp.alloc (.cells z.cells.toList t)) (ptrTo hp.n) (Instr.alloc t true (.tuple #[])) := by
 have hzp := (r_zero (w := w) hz).2
 obtain ⟨β', w', h1, h2, h3, h4, h5⟩ := newRow_ok S (cells_ok (VR.plain (β := β) 4 z hzp)) t
 refine ⟨β', w', _, h1, h3, ptr_new h2, h4, Lm.alloc _ _, ?_⟩
 simp only [Instr.alloc, Sem.run_bind, (r_zero hz).1, Result.andThen_ok, newVar, h5, Sem.run_pure]
theorem box_ok {P : Program} {Wr : Nat → Prop} {β : Inj} {hp : Heap} {w : World} (S : Sim P Wr β hp w) {t : TypeId} {x x' : Value} (hx : VR β x x') :
 WOut P Wr β hp w (hp.alloc (.cells x.cells.toList t)) (ptrTo hp.n) (Instr.box t x') := by
 obtain ⟨β', w', h1, h2, h3, h4, h5⟩ := newRow_ok S (cells_ok hx) t
 refine ⟨β', w', _, h1, h3, ptr_new h2, h4, Lm.alloc _ _, ?_⟩
 simp only [Instr.box, Sem.run_bind, newVar, h5, Result.andThen_ok, Sem.run_pure]
theorem slice_new {β : Inj} {n B N k : Nat} (h : β n = some ⟨B, 0, N, k⟩) (l c : Nat) : VR β (.slice (some ⟨n, 0, none⟩) l c) (.slice (some ⟨B, 0, none⟩) l c) := by
 have := AR.new (o := 0) h
 simpa using VR.slice this l c
theorem buildSlice_ok {E : Env} {Wr : Nat → Prop} {β : Inj} {hp : Heap} {w : World} (S : Sim E.P Wr β hp w) {t elem : TypeId} (hu : E.P.underlying t = some (.slice elem)) {k len : Nat} (hk : sz E.P elem = some k) {z : Value} (hz : zeroOf E.P elem = some z)
 (hlen : len * k ≤ 16777216) (hzk : z.cells.size = k) {p : List (Nat × Value)} {p' : Array (Nat × Value)} (hpp : PRs β p p'.toList) {c : List Value} (hc : fillL (fun i => some (i * k, k)) (repZ z.cells.toList len) p = some c) :
 WOut E.P Wr β hp w (hp.alloc (.cells c elem)) (.slice (some ⟨hp.n, 0, none⟩) len len) (Instr.buildSlice t len p') := by
 have hzp := (r_zero (w := w) hz).2
 have hzc := cells_ok (VR.plain (β := β) 4 z hzp)
 have hrep := VRs.repZ hzc len
 rw [← zrep, hzk] at hrep
 obtain ⟨c', g1, g2⟩ := fill_ok _ _ _ _ _ _ hpp (by rw [← zrep, hzk]; exact hrep) hc
 obtain ⟨β', w', h1, h2, h3, h4, h5⟩ := newRow_ok S g2 elem
 refine ⟨β', w', _, h1, h3, slice_new h2 _ _, h4, Lm.alloc _ _, ?_⟩
 have hlen' : ¬ len * k > 2 ^ 24 := by omega
 simp only [Instr.buildSlice, Sem.run_bind, r_underlying hu, Result.andThen_ok, r_size hk, if_neg hlen']
 by_cases q : len * k = 0
 ·
  rw [if_pos q]
  have e : (Array.range (len * k)).map (fun i => (#[] : Array Value)[i % (#[] : Array Value).size]!) = (Array.range (len * k)).map (fun i => z.cells[i % k]!) := by rw [q]; simp
  simp only [Sem.run_bind, Sem.run_pure, Result.andThen_ok]
  rw [e, g1]
  simp only [Sem.run_bind, h5, Result.andThen_ok, Sem.run_pure]
 ·
  rw [if_neg q]
  simp only [Sem.run_bind, (r_zero hz).1, Result.andThen_ok, Sem.run_pure, hzk]
  rw [g1]
  simp only [Sem.run_bind, h5, Result.andThen_ok, Sem.run_pure]
theorem makeMap_ok {P : Program} {Wr : Nat → Prop} {β : Inj} {hp : Heap} {w : World} (S : Sim P Wr β hp w) :
 ∃ β' w', Up hp.n β β' ∧ β' hp.n = some ⟨w.heap.size, 0, 0, 0⟩ ∧ Sim P Wr β' (hp.alloc (.map [] 0)) w' ∧ FrameW Wr w w' ∧ (newObj (.map #[] 0)).run P w = .ok w.heap.size w' := by
 obtain ⟨β', h1, h2, h3, h4⟩ := S.allocM (w' := { w with heap := w.heap.push (.map #[] 0) }) rfl rfl rfl rfl
 exact ⟨β', _, h1, h2, h3, h4, rfl⟩
theorem wrap_i64 {n : Int} (h0 : -9223372036854775808 ≤ n) (h1 : n ≤ 9223372036854775807) : IntKind.i64.wrap n = n := by
 simp only [IntKind.wrap, IntKind.bits, IntKind.signed]
 simp
 split <;> omega
theorem makeSlice_ok {E : Env} {Wr : Nat → Prop} {β : Inj} {hp : Heap} {w : World} (S : Sim E.P Wr β hp w) {t elem : TypeId} (hu : E.P.underlying t = some (.slice elem)) {k b : Nat} (hk : sz E.P elem = some k) (hb : bytesOf E.P elem = some b) {z : Value} (hz : zeroOf E.P elem = some z)
 (hzk : z.cells.size = k) {l c : Int} (hd : 0 ≤ l ∧ l ≤ c ∧ c ≤ 140737488355328 ∧ b * c ≤ 281474976710656) :
 WOut E.P Wr β hp w (hp.alloc (.cells (repZ z.cells.toList c.toNat) elem)) (.slice (some ⟨hp.n, 0, none⟩) l.toNat c.toNat) (Instr.makeSlice t (.int .i64 l) (.int .i64 c)) := by
 have hzp := (r_zero (w := w) hz).2
 have hzc := cells_ok (VR.plain (β := β) 4 z hzp)
 have hrep := VRs.repZ hzc c.toNat
 have hi : ∃ i, E.P.info? elem = some i ∧ i.bytes = b := by
  unfold bytesOf at hb; split at hb
  ·
   rename_i i hi; cases hb; exact ⟨i, hi, rfl⟩
  ·
   cases hb
 obtain ⟨i, hi, hib⟩ := hi
 obtain ⟨β', w', h1, h2, h3, h4, h5⟩ := newRow_ok S (C := (Array.range (c.toNat * k)).map (fun i => z.cells[i % k]!)) (c := repZ z.cells.toList c.toNat) (by have := zrep z.cells c.toNat; rw [hzk] at this; rw [this]; exact hrep) elem
 refine ⟨β', w', _, h1, h3, slice_new h2 _ _, h4, Lm.alloc _ _, ?_⟩
 have wl : IntKind.i64.wrap l = l := wrap_i64 (by omega) (by omega)
 have wc : IntKind.i64.wrap c = c := wrap_i64 (by omega) (by omega)
 have t1 : ¬ (((decide (c < 0) || decide ((b : Int) * c > 2 ^ 48)) || decide (l < 0) || decide (l > c)) = true) := by
  simp; omega
 simp only [Instr.makeSlice, Sem.run_bind, r_underlying hu, Result.andThen_ok, asInt, asIntOf, Sem.run_pure, r_info hi, hib, wl, wc, Sem.run_ite, if_neg t1, run_askRoom, r_size hk]
 by_cases q : c.toNat * k = 0
 ·
  rw [if_pos q]
  have e : (Array.range (c.toNat * k)).map (fun i => (#[] : Array Value)[i % (#[] : Array Value).size]!) = (Array.range (c.toNat * k)).map (fun i => z.cells[i % k]!) := by rw [q]; simp
  rw [e, h5]
  simp only [Result.andThen_ok]
 ·
  rw [if_neg q]
  simp only [Sem.run_bind, Sem.run_pure, (r_zero hz).1, Result.andThen_ok, hzk, h5]
theorem storeV_ok {E : Env} {Wr : Nat → Prop} {β : Inj} {hp hp' : Heap} {w : World} (S : Sim E.P Wr β hp w) {t : TypeId} {a a' v v' : Value} (ha : VR β a a') (hv : VR β v v') (h : storeV E hp t a v = some hp') :
 ∃ w', (Instr.storeAt t a' v').run E.P w = .ok () w' ∧ Sim E.P Wr β hp' w' ∧ FrameW Wr w w' ∧ Lm hp hp' := by
 unfold storeV at h
 split at h
 ·
  rename_i p
  cases ha with | @ptr _ p' hA => ?_
  split at h
  ·
   rename_i k hk
   obtain ⟨hq, h⟩ := bif_some h
   have hq : v.cells.size = k := Nat.eq_of_beq_eq_true hq
   have hc := cells_ok hv
   obtain ⟨w', h1, h2, h3, h4, h5⟩ := storeCells_ok S hA hc h
   refine ⟨w', ?_, h2, h3, Lm.of h4 h5⟩
   have hq' : ¬ v'.cells.size ≠ k := by have := hc.len; simp at this; omega
   simp only [Instr.storeAt, Instr.sureAddr, Sem.run_bind, Sem.run_pure, Result.andThen_ok, storeVar, r_size hk, if_neg hq', h1]
  ·
   cases h
 ·
  cases h
end Go.Proofs.YtokfjifeofpkkaaGreat.V
namespace Go.Proofs.YtokfjifeofpkkaaGreat.V
open Go
set_option linter.unusedVariables false
set_option linter.unusedSimpArgs false
theorem lenOf_ok {P : Program} {β : Inj} {x x' : Value} (hx : VR β x x') {n : Nat} (h : lenOfV x = some n) (w : World) : (Builtin.lenOf x').run P w = .ok n w := by
 unfold lenOfV at h
 split at h
 ·
  cases h; cases hx <;> rfl
 ·
  cases h; cases hx; rfl
 ·
  cases h
theorem add_zero (a : Addr) : a.add 0 = a := by unfold Addr.add; rw [if_pos rfl]
theorem first_ok {P : Program} {Wr : Nat → Prop} {β : Inj} {hp : Heap} {w : World} (S : Sim P Wr β hp w) {k n : Nat} {x x' : Value} (hx : VR β x x') {c : List Value} (h : firstV hp k n x = some c) :
 ∃ c' : Array Value, VRs β c c'.toList ∧ ∀ w', Ext w w' → (Builtin.firstCells k n x').run P w' = .ok c' w' := by
 unfold firstV at h
 split at h
 ·
  rename_i a l cap
  cases hq : Nat.beq (n * k) 0 with
  | true =>
   rw [hq] at h; simp at h; subst h
   have hq : n * k = 0 := Nat.eq_of_beq_eq_true hq
   refine ⟨#[], .nil, fun w' _ => ?_⟩
   have : ∃ a' l' c', x' = .slice (some a') l' c' := by cases hx <;> exact ⟨_, _, _, rfl⟩
   obtain ⟨a', l', c', rfl⟩ := this
   simp only [Builtin.firstCells, hq]; rfl
  | false =>
   rw [hq] at h; simp only [cond_false] at h
   split at h
   ·
    rename_i b hb
    obtain ⟨a', c', rfl, hA⟩ := sliceAt_ok hx hb
    rw [add_zero] at hA
    obtain ⟨l', e1, e2, e3⟩ := cellsAt_ok S hA h
    refine ⟨l'.toArray, by simpa using e2, fun w' he => ?_⟩
    have := run_loadCells_list (P := P) w' a' l' (fun j v hv => he.cell (e3 j v hv))
    rw [e1] at this
    simp only [Builtin.firstCells, this]
   ·
    cases h
 ·
  cases hx; cases h; exact ⟨#[], .nil, fun w' _ => rfl⟩
 ·
  rename_i s
  cases hx; cases h
  refine ⟨(s.extract 0 n).data.map fun b => .int .u8 b.toNat, ?_, fun w' _ => rfl⟩
  have e : ((s.extract 0 n).data.map fun (b : UInt8) => Value.int .u8 b.toNat).toList = (s.data.toList.take n).map fun b => Value.int .u8 b.toNat := by
   rw [Array.toList_map, ByteArray.data_extract, Array.toList_extract]; simp [List.extract_eq_take_drop]
  rw [e]
  refine VRs.mk (by simp) ?_
  intro i v hv
  simp only [List.getElem?_map] at hv ⊢
  cases hq : (s.data.toList.take n)[i]? with
  | none => rw [hq] at hv; cases hv
  | some b => rw [hq] at hv; simp at hv; subst hv; exact ⟨_, by simp, .int _ _⟩
 ·
  cases h
theorem growBy_le (m : Nat) : ∀ (r c : Nat), c ≤ m + m / 4 + 1024 → Builtin.growBy m r c ≤ m + m / 4 + 1024
 | 0, c, h => h
 | r + 1, c, h => by
  simp only [Builtin.growBy]
  split
  ·
   exact h
  ·
   rename_i q; exact growBy_le m r _ (by omega)
theorem next_le {m c : Nat} (h : c < m) : Builtin.nextslicecap m c ≤ m + m / 4 + 1024 := by
 unfold Builtin.nextslicecap
 split
 ·
  omega
 ·
  split
  ·
   omega
  ·
   exact growBy_le m 4 c (by omega)
def appended (E : Env) (elem k n : Nat) (zeros : Bool) (x : Value) : Sem (Array Value) :=
 if !zeros then Builtin.firstCells k n x
 else if n * k = 0 then pure #[]
 else do pure (Builtin.zeroCells (← zeroValue elem).cells n)
theorem new_ok {E : Env} {Wr : Nat → Prop} {β : Inj} {hp : Heap} {w : World} (S : Sim E.P Wr β hp w) {elem k bytes n : Nat} {zeros : Bool} {x x' : Value} (hx : VR β x x') {c : List Value} (h : newV E hp elem k bytes zeros x = some (n, c)) :
 ∃ c' : Array Value, VRs β c c'.toList ∧ (∀ w', Ext w w' → (appended E elem k n zeros x').run E.P w' = .ok c' w') ∧
  (zeros = true → ∃ kk i, x' = .int kk i ∧ 0 ≤ i ∧ i ≤ 140737488355328 ∧ i * bytes ≤ 281474976710656 ∧ n = i.toNat) ∧ (zeros = false → ∀ w, (Builtin.lenOf x').run E.P w = .ok n w) := by
 unfold newV at h
 cases zeros with
 | true =>
  simp only [cond_true] at h
  split at h
  ·
   rename_i kk i
   split at h
   ·
    rename_i hi
    split at h
    ·
     rename_i z hz
     obtain ⟨hq, h⟩ := bif_some h
     have hq : z.cells.size = k := Nat.eq_of_beq_eq_true hq
     cases h
     cases hx
     have hzp := (r_zero (w := w) hz).2
     have hrep := VRs.repZ (cells_ok (VR.plain (β := β) 4 z hzp)) i.toNat
     have e := zrep z.cells i.toNat
     refine ⟨(Array.range (i.toNat * z.cells.size)).map (fun i => z.cells[i % z.cells.size]!), by rw [e]; exact hrep, fun w' _ => ?_, fun _ => ⟨kk, i, rfl, hi.1, hi.2.1, hi.2.2, rfl⟩, (by intro h; cases h)⟩
     simp only [appended, Bool.not_true, Bool.false_eq_true, if_false]
     split
     ·
      rename_i q; rw [hq, q]; simp
     ·
      simp only [Sem.run_bind, (r_zero hz).1, Result.andThen_ok, Sem.run_pure]; rfl
    ·
     cases h
   ·
    cases h
  ·
   cases h
 | false =>
  simp only [cond_false] at h
  split at h
  ·
   rename_i m hm
   split at h
   ·
    rename_i c0 hc
    cases h
    obtain ⟨c', h1, h2⟩ := first_ok S hx hc
    exact ⟨c', h1, (fun w' he => by simp only [appended, Bool.not_false, if_true]; exact h2 w' he), (by intro h; cases h), (fun _ w => lenOf_ok hx hm w)⟩
   ·
    cases h
  ·
   cases h
theorem zeros_cases {P : Program} {ts : Array TypeId} {b : Bool} (h : zerosV P ts = some b) : (ts[1]? = none ∧ b = false) ∨ (∃ t d, ts[1]? = some t ∧ P.underlying t = some d ∧ ((∃ k, d = .int k) ∧ b = true ∨ (∀ k, d ≠ .int k) ∧ b = false)) := by
 unfold zerosV at h
 split at h
 ·
  rename_i t ht
  split at h
  ·
   rename_i k hu; cases h; exact .inr ⟨t, _, ht, hu, .inl ⟨⟨_, rfl⟩, rfl⟩⟩
  ·
   rename_i d hd hu; cases h; exact .inr ⟨t, d, ht, hu, .inr ⟨fun k e => hd k e, rfl⟩⟩
  ·
   cases h
 ·
  rename_i ht; cases h; exact .inl ⟨ht, rfl⟩
section
variable {E : Env} {ts : Array TypeId} {sT elem k n : Nat} {zeros : Bool} {base : Option Addr} {len cap : Nat} {x : Value} {T : TypeId} {i : TypeInfo} {w w' : World}
theorem append_in (h0 : ts[0]? = some sT) (hu : E.P.underlying sT = some (.slice elem)) (hk : sz E.P elem = some k) (hz : zerosV E.P ts = some zeros) (hi : E.P.info? elem = some i)
 (h1 : zeros = true → ∃ kk j, x = .int kk j ∧ 0 ≤ j ∧ j ≤ 140737488355328 ∧ j * i.bytes ≤ 281474976710656 ∧ n = j.toNat) (h2 : zeros = false → ∀ w, (Builtin.lenOf x).run E.P w = .ok n w)
 {new : Array Value} (hn : ∀ w', Ext w w' → (appended E elem k n zeros x).run E.P w' = .ok new w') (hc : len + n ≤ cap)
 (hs : (match base with | some a => Go.storeCells (a.add (len * k)) new.toList | none => pure () : Sem Unit).run E.P w = .ok () w') :
 (Builtin.append_ ts T #[.slice base len cap, x]).run E.P w = .ok (.slice base (len + n) cap) w' := by
 have e0 : (#[Value.slice base len cap, x] : Array Value)[0]? = some (.slice base len cap) := rfl
 have e1 : (#[Value.slice base len cap, x] : Array Value)[1]? = some x := rfl
 have hn := hn w (Ext.refl w)
 have fin : (match (generalizing := false) base with
  | some a => do
   Go.storeCells (a.add (len * k)) new.toList
   pure (Value.slice base (len + n) cap)
  | x => pure (Value.slice base (len + n) cap) : Sem Value).run E.P w = .ok (.slice base (len + n) cap) w' := by
  cases base with
  | none => simp only [Sem.run_pure] at hs ⊢; cases hs; rfl
  | some a => simp only [Sem.run_bind, hs, Result.andThen_ok, Sem.run_pure]
 unfold Builtin.append_
 rcases zeros_cases hz with ⟨ht, rfl⟩ | ⟨t, d, ht, hd, ⟨⟨kk, rfl⟩, rfl⟩ | ⟨hni, rfl⟩⟩
 ·
  simp only [appended, Bool.not_false, if_true] at hn
  simp only [h0, e0, e1, ht, Sem.run_bind, Sem.run_pure, Result.andThen_ok, r_underlying hu, r_size hk, h2 rfl, hn, if_pos hc, Bool.not_false, if_true, Bool.false_eq_true, if_false]
  exact fin
 ·
  obtain ⟨kk', j, rfl, j0, j1, j2, rfl⟩ := h1 rfl
  have wj : IntKind.i64.wrap j = j := wrap_i64 (by omega) (by omega)
  have q1 : ¬ j < 0 := by omega
  have q2 : ¬ j * (i.bytes : Int) > 2 ^ 48 := by omega
  simp only [appended, Bool.not_true, Bool.false_eq_true, if_false] at hn
  simp only [h0, e0, e1, ht, Sem.run_bind, Sem.run_pure, Result.andThen_ok, r_underlying hu, r_underlying hd, r_size hk, asInt, asIntOf, wj, if_neg q1, r_info hi, if_neg q2, if_pos hc, Bool.not_true, if_true, Bool.false_eq_true, if_false, hn]
  exact fin
 ·
  simp only [appended, Bool.not_false, if_true] at hn
  cases d <;> first
   | exact (hni _ rfl).elim
   | (
    simp only [h0, e0, e1, ht, Sem.run_bind, Sem.run_pure, Result.andThen_ok, r_underlying hu, r_underlying hd, r_size hk, h2 rfl, hn, if_pos hc, Bool.not_false, if_true, Bool.false_eq_true, if_false]
    exact fin)
theorem append_out (h0 : ts[0]? = some sT) (hu : E.P.underlying sT = some (.slice elem)) (hk : sz E.P elem = some k) (hz : zerosV E.P ts = some zeros) (hi : E.P.info? elem = some i)
 (h1 : zeros = true → ∃ kk j, x = .int kk j ∧ 0 ≤ j ∧ j ≤ 140737488355328 ∧ j * i.bytes ≤ 281474976710656 ∧ n = j.toNat) (h2 : zeros = false → ∀ w, (Builtin.lenOf x).run E.P w = .ok n w)
 {new old : Array Value} (hn : ∀ w', Ext w w' → (appended E elem k n zeros x).run E.P w' = .ok new w') (ho : ∀ w', Ext w w' → (Builtin.firstCells k len (.slice base len cap)).run E.P w' = .ok old w')
 {z : Value} (hzv : ∀ w, (zeroValue elem).run E.P w = .ok z w) (hc : cap < len + n) (hb : 0 < i.bytes) (hr : ((len + n) + (len + n) / 4 + 1024) * i.bytes ≤ 281474976710656) :
 ∃ newCap drawn', len + n ≤ newCap ∧ (Builtin.append_ ts T #[.slice base len cap, x]).run E.P w = .ok (.slice (some ⟨w.heap.size, 0, none⟩) (len + n) newCap)
  { w with drawn := drawn', heap := w.heap.push (.cells (old ++ new ++ Builtin.zeroCells z.cells (newCap - (len + n))) elem) } := by
 have e0 : (#[Value.slice base len cap, x] : Array Value)[0]? = some (.slice base len cap) := rfl
 have e1 : (#[Value.slice base len cap, x] : Array Value)[1]? = some x := rfl
 have hext : Ext w { w with drawn := w.drawn + 1 } := ⟨rfl, rfl, rfl, Nat.le_refl _, fun _ _ => rfl⟩
 have hn := hn _ hext
 have ho := ho _ hext
 have hc' : ¬ len + n ≤ cap := by omega
 have hbm : i.bytes ≤ ((len + n) + (len + n) / 4 + 1024) * i.bytes := Nat.le_mul_of_pos_left _ (by omega)
 have hlm : (len + n) + (len + n) / 4 + 1024 ≤ ((len + n) + (len + n) / 4 + 1024) * i.bytes := Nat.le_mul_of_pos_right _ hb
 have q3 : (((len + n : Nat) : Int) > IntKind.i64.max) = False := by
  have : IntKind.i64.max = 9223372036854775807 := by decide
  rw [this]; exact eq_false (by omega)
 have q4 : ¬ Builtin.nextslicecap (len + n) cap * i.bytes > 2 ^ 48 := by
  have := Nat.mul_le_mul_right i.bytes (next_le hc)
  omega
 have hch : ∀ w : World, (choose (.appendCap (len + n) cap elem)).run E.P w = .ok (Question.cut (.appendCap (len + n) cap elem) (w.tape w.drawn (.appendCap (len + n) cap elem))) { w with drawn := w.drawn + 1 } := by
  intro w; rw [run_choose]; simp [Question.forced]
 refine ⟨Question.cut (.appendCap (len + n) cap elem) (w.tape w.drawn (.appendCap (len + n) cap elem)), w.drawn + 1, by simp [Question.cut], ?_⟩
 unfold Builtin.append_
 rcases zeros_cases hz with ⟨ht, rfl⟩ | ⟨t, d, ht, hd, ⟨⟨kk, rfl⟩, rfl⟩ | ⟨hni, rfl⟩⟩
 ·
  simp only [appended, Bool.not_false, if_true] at hn
  simp only [h0, e0, e1, ht, Sem.run_bind, Sem.run_pure, Result.andThen_ok, r_underlying hu, r_size hk, h2 rfl, if_neg hc', r_info hi, q3, false_and, if_false, if_neg q4, hch, run_askRoom, ho, hn, hzv, Bool.not_false, if_true, Bool.false_eq_true, if_false, newRow, run_newObj]
 ·
  obtain ⟨kk', j, rfl, j0, j1, j2, rfl⟩ := h1 rfl
  have wj : IntKind.i64.wrap j = j := wrap_i64 (by omega) (by omega)
  have q1 : ¬ j < 0 := by omega
  have q2 : ¬ j * (i.bytes : Int) > 2 ^ 48 := by omega
  simp only [appended, Bool.not_true, Bool.false_eq_true, if_false] at hn
  simp only [h0, e0, e1, ht, Sem.run_bind, Sem.run_pure, Result.andThen_ok, r_underlying hu, r_underlying hd, r_size hk, asInt, asIntOf, wj, if_neg q1, r_info hi, if_neg q2, if_neg hc', q3, false_and, if_false, if_neg q4, hch, run_askRoom, ho, hn, hzv, Bool.not_true, if_true, Bool.false_eq_true, if_false, newRow, run_newObj]
 ·
  simp only [appended, Bool.not_false, if_true] at hn
  cases d <;> first
   | exact (hni _ rfl).elim
   | simp only [h0, e0, e1, ht, Sem.run_bind, Sem.run_pure, Result.andThen_ok, r_underlying hu, r_underlying hd, r_size hk, h2 rfl, if_neg hc', r_info hi, q3, false_and, if_false, if_neg q4, hch, run_askRoom, ho, hn, hzv, Bool.not_false, if_true, Bool.false_eq_true, if_false, newRow, run_newObj]
end
end Go.Proofs.YtokfjifeofpkkaaGreat.V
namespace Go.Proofs.YtokfjifeofpkkaaGreat.V
open Go
set_option linter.unusedVariables false
set_option linter.unusedSimpArgs false
theorem first_size {P : Program} {Wr : Nat → Prop} {β : Inj} {hp : Heap} {w : World} (S : Sim P Wr β hp w) {k n : Nat} {a : Option Addr} {l cap : Nat} {x' : Value} {c : List Value} (h : firstV hp k n (.slice a l cap) = some c) : c.length = n * k ∨ a = none := by
 unfold firstV at h
 cases a with
 | none => exact .inr rfl
 | some a =>
  left
  simp only at h
  cases hq : Nat.beq (n * k) 0 with
  | true => rw [hq] at h; simp at h; subst h; simp [Nat.eq_of_beq_eq_true hq]
  | false =>
   rw [hq] at h; simp only [cond_false] at h
   split at h
   ·
    rename_i b hb
    have : ∀ (b : Addr) (m : Nat) (l : List Value), cellsAt hp b m = some l → l.length = m := by
     intro b m l hl
     unfold cellsAt at hl
     split at hl
     ·
      split at hl
      ·
       obtain ⟨hq, hl⟩ := bif_some hl
       have := Nat.le_of_ble_eq_true hq
       cases hl; simp; omega
      ·
       cases hl
     ·
      have : ∀ (m o : Nat) (l : List Value), baseCells hp b.block o m = some l → l.length = m := by
       intro m
       induction m with
       | zero => intro o l h; simp [baseCells] at h; subst h; rfl
       | succ m ih =>
        intro o l h
        simp only [baseCells] at h
        split at h
        ·
         split at h
         ·
          rename_i r hr; cases h; simp [ih _ _ hr]
         ·
          cases h
        ·
         cases h
      exact this _ _ _ hl
     ·
      cases hl
    exact this _ _ _ h
   ·
    cases h
theorem slice_len {β : Inj} {a : Option Addr} {l c l' : Nat} {v : Value} (h : VR β (.slice a l c) v) (hl : l' ≤ c) : ∃ a' c', v = .slice a' l c' ∧ c ≤ c' ∧ VR β (.slice a l' c) (.slice a' l' c') := by
 cases h with
 | sliceNil => exact ⟨_, _, rfl, Nat.le_refl _, .sliceNil _ _⟩
 | slice h => exact ⟨_, _, rfl, Nat.le_refl _, .slice h _ _⟩
 | slack h _ hc hn => exact ⟨_, _, rfl, hc, .slack h _ hc hn⟩
 | opq a' c' =>
  have : l' = 0 := by omega
  subst this; exact ⟨_, _, rfl, Nat.zero_le _, .opq _ _⟩
theorem put_ok {P : Program} {Wr : Nat → Prop} {β : Inj} {hp hp' : Heap} {w : World} (S : Sim P Wr β hp w) {base : Option Addr} {len cap n k : Nat} {new new' : List Value} {v : Value} (hv : VRs β new new') (hl : new.length = n * k)
 {base' : Option Addr} {cap' : Nat} (hs : VR β (.slice base len cap) (.slice base' len cap')) (h : putV hp base len cap n k new = some (v, hp')) :
 v = .slice base (len + n) cap ∧ ∃ w', (match (generalizing := false) base' with | some a => Go.storeCells (a.add (len * k)) new' | none => pure () : Sem Unit).run P w = .ok () w' ∧ Sim P Wr β hp' w' ∧ FrameW Wr w w' ∧ Lm hp hp' := by
 unfold putV at h
 cases hq : Nat.beq (n * k) 0 with
 | true =>
  rw [hq] at h; simp at h
  obtain ⟨rfl, rfl⟩ := h
  have hq : n * k = 0 := Nat.eq_of_beq_eq_true hq
  have : new' = [] := by have := hv.len; rw [hl, hq] at this; exact List.eq_nil_of_length_eq_zero this.symm
  subst this
  refine ⟨rfl, w, ?_, S, FrameW.refl _ _, Lm.refl _⟩
  cases base' <;> rfl
 | false =>
  rw [hq] at h; simp only [cond_false] at h
  split at h
  ·
   cases h
  ·
   rename_i a
   split at h
   ·
    cases h
   ·
    rename_i b hb
    split at h
    ·
     rename_i h' hst
     cases h
     obtain ⟨a', c', e, hA⟩ := sliceAt_ok hs hb
     cases e
     obtain ⟨w', h1, h2, h3, h4, h5⟩ := storeCells_ok S hA hv hst
     exact ⟨rfl, w', h1, h2, h3, Lm.of h4 h5⟩
    ·
     cases h
theorem all_one {β : Inj} {vs vs' : List Value} (hv : VRs β vs vs') (hone : vs.all cellOk = true) : ∀ v ∈ vs', v.oneCell' = true := by
 intro v hm
 obtain ⟨i, hi⟩ := List.mem_iff_getElem?.1 hm
 rcases hu : vs[i]? with _ | u
 ·
  rw [hv.get' i hu] at hi; cases hi
 ·
  obtain ⟨v', q1, q2⟩ := hv.get i hu
  rw [hi] at q1; cases q1
  exact cellOk_one q2 (List.all_eq_true.1 hone u (List.mem_iff_getElem?.2 ⟨i, hu⟩))
theorem zeroCells_size (z : Array Value) (n : Nat) : (Builtin.zeroCells z n).size = n * z.size := by simp [Builtin.zeroCells]
theorem bytes_info {P : Program} {t b : Nat} (hb : bytesOf P t = some b) : ∃ i, P.info? t = some i ∧ i.bytes = b := by
 unfold bytesOf at hb; split at hb
 ·
  rename_i i hi; cases hb; exact ⟨i, hi, rfl⟩
 ·
  cases hb
theorem grown_ok {P : Program} {Wr : Nat → Prop} {β : Inj} {hp : Heap} {w w' : World} (S : Sim P Wr β hp w) {c : List Value} {C R : Array Value} {elem k m cap' : Nat} (hk : P.cellsOf elem = k) (hc : VRs β c C.toList) (hC : C.size = m * k) (hR : R.size = (cap' - m) * k) (hm : m ≤ cap')
 (hw : w'.heap = w.heap.push (.cells (C ++ R) elem)) (h1 : w'.os = w.os) (h2 : w'.tape = w.tape) (h3 : w'.output = w.output) :
 ∃ β', Up hp.n β β' ∧ Sim P Wr β' (hp.alloc (.cells c elem)) w' ∧ FrameW Wr w w' ∧ VR β' (.slice (some ⟨hp.n, 0, some 0⟩) m m) (.slice (some ⟨w.heap.size, 0, none⟩) m cap') := by
 have hl := hc.len
 obtain ⟨β', g1, g2, g3, g4⟩ := S.alloc (c := c) (C := C ++ R) (T := elem) (w' := w') (by simp at hl ⊢; omega)
  (fun i v hv => by
   obtain ⟨v', e1, e2⟩ := hc.get i hv
   refine ⟨v', ?_, e2⟩
   have hi : i < C.size := by
    rcases Nat.lt_or_ge i C.size with q | q
    ·
     exact q
    ·
     rw [List.getElem?_eq_none (by simpa using q)] at e1; cases e1
   rw [Array.getElem?_append_left hi, ← Array.getElem?_toList]; exact e1) hw h1 h2 h3
 refine ⟨β', g1, g3, g4, ?_⟩
 have := VR.slack (o := 0) g2 m (c := m) (c' := cap') hm (by
  simp only [hk, Array.size_append, hC, hR]
  rw [← Nat.add_mul]
  have : m + (cap' - m) = cap' := by omega
  rw [this]; omega)
 simpa using this
theorem appendV_ok {E : Env} {Wr : Nat → Prop} {β : Inj} {hp hp' : Heap} {w : World} (S : Sim E.P Wr β hp w) {ts : Array TypeId} {T : TypeId} {s x s' x' v : Value} (hs : VR β s s') (hx : VR β x x') (h : appendV E hp ts s x = some (v, hp')) :
 WOut E.P Wr β hp w hp' v (Builtin.append_ ts T #[s', x']) := by
 unfold appendV at h
 split at h
 ·
  cases h
 ·
  rename_i sT h0
  split at h
  ·
   rename_i elem hu
   split at h
   ·
    rename_i k bytes z zeros hk hb hz hzs
    split at h
    ·
     rename_i base len cap
     split at h
     ·
      cases h
     ·
      rename_i n new hnew
      obtain ⟨hnl, h⟩ := bif_some h
      have hnl : new.length = n * k := Nat.eq_of_beq_eq_true hnl
      obtain ⟨i, hi, rfl⟩ := bytes_info hb
      obtain ⟨new', hv, hn, q1, q2⟩ := new_ok S hx hnew
      have hnl' : new'.size = n * k := by have := hv.len; simp at this; omega
      cases hfit : Nat.ble (len + n) cap with
      | true =>
       rw [hfit] at h; simp only [cond_true] at h
       have hfit : len + n ≤ cap := Nat.le_of_ble_eq_true hfit
       obtain ⟨base', cap', rfl, hcc, hs2⟩ := slice_len hs hfit
       obtain ⟨rfl, w', g1, g2, g3, g4⟩ := put_ok S hv hnl hs h
       refine ⟨β, w', _, Up.refl _ β, g2, hs2, g3, g4, ?_⟩
       exact append_in h0 hu hk hzs hi q1 q2 hn (by omega) (by cases base' <;> exact g1)
      | false =>
       rw [hfit] at h; simp only [cond_false] at h
       obtain ⟨hr, h⟩ := bif_some h
       have hfit : ¬ len + n ≤ cap := by intro q; rw [Nat.ble_eq_true_of_le q] at hfit; cases hfit
       rw [Bool.and_eq_true] at hr
       obtain ⟨hr, hzk⟩ := hr
       have hzk : z.cells.size = k := Nat.eq_of_beq_eq_true hzk
       unfold roomy at hr
       rw [Bool.and_eq_true] at hr
       have hr1 := Nat.le_of_ble_eq_true hr.1
       have hr2 : 0 < i.bytes := by have := hr.2; rwa [Nat.blt_eq] at this
       have hzv : ∀ w, (zeroValue elem).run E.P w = .ok z w := fun w => (r_zero hz).1
       have hck := sz_cells hk
       cases base with
       | none =>
        simp only [growV] at h
        obtain ⟨hl0, h⟩ := bif_some h
        have hl0 : len = 0 := Nat.eq_of_beq_eq_true hl0
        subst hl0
        cases h
        cases hs
        obtain ⟨newCap, dr, e1, e2⟩ := append_out (T := T) h0 hu hk hzs hi q1 q2 hn (old := #[]) (fun w' _ => rfl) hzv (cap := cap) (base := none) (len := 0) (by omega) hr2 hr1
        obtain ⟨β', f1, f2, f3, f4⟩ := grown_ok S (w' := { w with drawn := dr, heap := w.heap.push (.cells (#[] ++ new' ++ Builtin.zeroCells z.cells (newCap - (0 + n))) elem) }) (C := new') (R := Builtin.zeroCells z.cells (newCap - (0 + n))) (m := 0 + n) (cap' := newCap) hck hv (by rw [hnl']; simp) (by rw [zeroCells_size, hzk]) e1 (by simp) rfl rfl rfl
        exact ⟨β', _, _, f1, f2, f4, f3, ⟨rfl, Nat.le_succ _⟩, e2⟩
       | some a =>
        simp only [growV] at h
        cases hsl : isSlack a with
        | true =>
         rw [hsl] at h; simp only [cond_true] at h
         obtain ⟨ab, ao, asp⟩ := a
         have : asp = some 0 := by unfold isSlack at hsl; split at hsl <;> simp_all
         subst this
         cases hs with
         | slice hA => cases hA
         | @slack b o B s N k' hβ l c c' hcc hnn =>
          split at h
          ·
           rename_i c T' hg
           obtain ⟨hq, h⟩ := bif_some h
           rw [Bool.and_eq_true, Bool.and_eq_true, Bool.and_eq_true] at hq
           obtain ⟨⟨⟨hlim, hT⟩, hoff⟩, hone⟩ := hq
           have hlim : hp.lim ≤ ab := Nat.le_of_ble_eq_true hlim
           have hT : T' = elem := Nat.eq_of_beq_eq_true hT
           have hoff : ao + len * k ≤ c.length := Nat.le_of_ble_eq_true hoff
           subst hT
           cases h
           obtain ⟨B', s', C, fr, g1, g2, g3, g4, g5⟩ := S.live _ _ _ hg
           rw [hβ] at g1; cases g1
           rw [hck] at hnn
           have alv : alive hp ab := ⟨_, hg, by simp⟩
           have S1 := S.kill alv
           have holdc : cellsAt hp ⟨ab, ao, none⟩ (len * k) = some ((c.drop ao).take (len * k)) := by
            simp only [cellsAt, hg]
            rw [Nat.ble_eq_true_of_le hoff]; rfl
           obtain ⟨old', o1, o2, o3⟩ := cellsAt_ok S (.new hβ) holdc
           by_cases hin : len + n ≤ c'
           ·
            -- the model has room
            have hmul : (len + n) * k ≤ c' * k := Nat.mul_le_mul_right k hin
            rw [Nat.add_mul] at hmul
            obtain ⟨C', r1, r2⟩ := store_run (P := E.P) (o := s + ao + len * k) new'.toList 0 C w g2 g3 (by simp; omega) (all_one hv hone)
            have esz : C'.size = C.size := by
             have := congrArg List.length r2
             rw [splice_len _ _ _ (by simp; omega)] at this; simpa using this
            have free : ∀ b' x', alive (hp.set ab .dead) b' → β b' = some x' → x'.B ≠ B := by
             intro b' x' a' hb'
             rcases alive_set a' with ⟨_, hd⟩ | ⟨n1, a1⟩
             ·
              exact (hd rfl).elim
             ·
              exact S.inj b' ab x' _ a1 alv hb' hβ n1
            have hW : Wr B := S.wr ab _ alv hlim hβ
            have S2 := S1.scribble (w' := { w with heap := w.heap.setIfInBounds B (.cells C' T' fr) }) free hW (by simp) (fun k hk => by simp only; rw [Array.getElem?_setIfInBounds, if_neg (fun e => hk e.symm)])
            have hcont : ∀ (i : Nat) (v : Value), (((c.drop ao).take (len * k)) ++ new)[i]? = some v → ∃ v', C'[(s + ao) + i]? = some v' ∧ VR β v v' := by
             intro j u hu'
             rw [← Array.getElem?_toList, r2, splice_get _ _ _ (by simp; omega)]
             by_cases hj : j < len * k
             ·
              rw [List.getElem?_append_left (by simp; omega), List.getElem?_take, if_pos hj, List.getElem?_drop] at hu'
              rw [if_neg (by omega)]
              obtain ⟨u', t1, t2⟩ := g5 _ _ hu'
              exact ⟨u', by rw [Array.getElem?_toList, ← t1]; congr 1; omega, t2⟩
             ·
              rw [List.getElem?_append_right (by simp; omega)] at hu'
              have el : ((c.drop ao).take (len * k)).length = len * k := by simp; omega
              rw [el] at hu'
              have hjn : j - len * k < n * k := by
               rcases Nat.lt_or_ge (j - len * k) (n * k) with q | q
               ·
                exact q
               ·
                rw [List.getElem?_eq_none (by omega)] at hu'; cases hu'
              rw [if_pos (by simp; omega)]
              obtain ⟨u', t1, t2⟩ := hv.get _ hu'
              exact ⟨u', by rw [← t1]; congr 1; omega, t2⟩
            have hle' := le_upd (⟨B, s + ao, C.size, k⟩ : Img) S1.dom
            obtain ⟨S3, hle⟩ := S2.addO (o := .cells ((c.drop ao).take (len * k) ++ new) T') (x := ⟨B, s + ao, C.size, k⟩) free hW (by simp; exact lt_of_get g2)
             ⟨C', fr, esz.symm, hck.symm, by simp [lt_of_get g2], by rw [esz]; exact g3, by simp; omega, fun j u hu' => by obtain ⟨u', t1, t2⟩ := hcont j u hu'; exact ⟨u', t1, t2.mono hle'⟩⟩
            refine ⟨_, { w with heap := w.heap.setIfInBounds B (.cells C' T' fr) }, .slice (some ⟨B, s + ao, none⟩) (len + n) c', hle, S3, ?_, ?_, ⟨rfl, Nat.le_succ _⟩, ?_⟩
            ·
             have hnew : upd β (hp.set ab .dead).n ⟨B, s + ao, C.size, k⟩ (hp.set ab .dead).n = some ⟨B, s + ao, C.size, k⟩ := by simp [upd]
             have := VR.slack (o := 0) hnew (len + n) (c := len + n) (c' := c') hin (by omega)
             simp only [Nat.add_zero] at this
             exact this
            ·
             exact ⟨rfl, rfl, rfl, by simp, fun j hj => by
              have hne : ¬ B = j := fun e => hj (by rw [← e]; exact hW)
              simp only; rw [Array.getElem?_setIfInBounds, if_neg hne]⟩
            ·
             refine append_in h0 hu hk hzs hi q1 q2 hn hin ?_
             simp only [Addr.add_none]; exact r1
           ·
            -- the model has none
            obtain ⟨newCap, dr, e1, e2⟩ := append_out (T := T) h0 hu hk hzs hi q1 q2 hn (old := old'.toArray) (base := some ⟨B, s + ao, none⟩) (len := len) (cap := c')
             (fun w' he => by
              have := run_loadCells_list (P := E.P) w' ⟨B, s + ao, none⟩ old' (fun j v hv => he.cell (o3 j v hv))
              rw [o1] at this
              simp only [Builtin.firstCells, this]) hzv (by omega) hr2 hr1
            obtain ⟨β', f1, f2, f3, f4⟩ := grown_ok S1 (w' := { w with drawn := dr, heap := w.heap.push (.cells (old'.toArray ++ new' ++ Builtin.zeroCells z.cells (newCap - (len + n))) T') }) (C := old'.toArray ++ new') (R := Builtin.zeroCells z.cells (newCap - (len + n))) (m := len + n) (cap' := newCap) hck
             (by simpa using o2.append hv) (by simp [o1, hnl', Nat.add_mul]) (by rw [zeroCells_size, hzk]) e1 rfl rfl rfl rfl
            exact ⟨β', _, _, f1, f2, f4, f3, ⟨rfl, Nat.le_succ _⟩, e2⟩
          ·
           cases h
        | false =>
         rw [hsl] at h; simp only [cond_false] at h
         split at h
         ·
          cases h
         ·
          rename_i hno2
          split at h
          ·
           rename_i old hold
           cases h
           obtain ⟨old', o2, o3⟩ := first_ok S hs hold
           have ol : old.length = len * k := by
            rcases first_size S (x' := x) hold with q | q
            ·
             exact q
            ·
             cases q
           have ol' : old'.size = len * k := by have := o2.len; simp at this; omega
           have hsc : ∃ a', s' = .slice (some a') len cap := by
            cases hs with
            | slice hA => exact ⟨_, rfl⟩
            | slack _ _ _ _ => simp [isSlack] at hsl
            | opq _ _ => exact (hno2 rfl).elim
           obtain ⟨a', rfl⟩ := hsc
           obtain ⟨newCap, dr, e1, e2⟩ := append_out (T := T) h0 hu hk hzs hi q1 q2 hn o3 hzv (by omega) hr2 hr1
           obtain ⟨β', f1, f2, f3, f4⟩ := grown_ok S (w' := { w with drawn := dr, heap := w.heap.push (.cells (old' ++ new' ++ Builtin.zeroCells z.cells (newCap - (len + n))) elem) }) (C := old' ++ new') (R := Builtin.zeroCells z.cells (newCap - (len + n))) (m := len + n) (cap' := newCap) hck
            (by simpa using o2.append hv) (by simp [ol', hnl', Nat.add_mul]) (by rw [zeroCells_size, hzk]) e1 rfl rfl rfl rfl
           exact ⟨β', _, _, f1, f2, f4, f3, ⟨rfl, Nat.le_succ _⟩, e2⟩
          ·
           cases h
    ·
     cases h
   ·
    cases h
  ·
   cases h
end Go.Proofs.YtokfjifeofpkkaaGreat.V
namespace Go.Proofs.YtokfjifeofpkkaaGreat.V
open Go
set_option linter.unusedVariables false
set_option linter.unusedSimpArgs false
theorem noval {β : Inj} : VR β (.tuple #[]) (.tuple #[]) := .tuple .nil
theorem copyV_ok {E : Env} {Wr : Nat → Prop} {β : Inj} {hp hp' : Heap} {w : World} (S : Sim E.P Wr β hp w) {ts : Array TypeId} {T : TypeId} {d x d' x' v : Value} (hd : VR β d d') (hx : VR β x x') (h : copyV E hp ts d x = some (v, hp')) :
 WOut E.P Wr β hp w hp' v (Builtin.copy_ ts T #[d', x']) := by
 unfold copyV at h
 split at h
 ·
  cases h
 ·
  rename_i sT h0
  split at h
  ·
   rename_i elem hu
   split at h
   ·
    rename_i k base len cap n hk hn
    split at h
    ·
     cases h
    ·
     rename_i c hc
     cases hcl : Nat.beq c.length (Nat.min n len * k) with
     | false => rw [hcl] at h; simp at h
     | true =>
      rw [hcl] at h; simp only [Bool.not_true, cond_false] at h
      have hcl : c.length = Nat.min n len * k := Nat.eq_of_beq_eq_true hcl
      obtain ⟨c', h1, h2⟩ := first_ok S hx hc
      have hl := h1.len
      have e0 : (#[d', x'] : Array Value)[0]? = some d' := rfl
      have e1 : (#[d', x'] : Array Value)[1]? = some x' := rfl
      have red : ∀ (base' : Option Addr) (cap' : Nat), d' = .slice base' len cap' → ∀ w', (match (generalizing := false) base' with | some a => Go.storeCells a c'.toList | none => pure () : Sem Unit).run E.P w = .ok () w' →
       (Builtin.copy_ ts T #[d', x']).run E.P w = .ok (goInt (Nat.min n len)) w' := by
       intro base' cap' hd' w' hs
       subst hd'
       unfold Builtin.copy_
       simp only [h0, e0, e1, Sem.run_bind, r_underlying hu, Result.andThen_ok, lenOf_ok hx hn, r_size hk, h2 w (Ext.refl w)]
       cases base' with
       | none => simp only [Sem.run_pure] at hs ⊢; cases hs; rfl
       | some a => simp only [Sem.run_bind, hs, Result.andThen_ok, Sem.run_pure]
      have hd2 : ∃ base' cap', d' = .slice base' len cap' := by cases hd <;> exact ⟨_, _, rfl⟩
      obtain ⟨base', cap', rfl⟩ := hd2
      cases hq : Nat.beq (Nat.min n len * k) 0 with
      | true =>
       rw [hq] at h; simp only [cond_true] at h
       cases h
       have hq : Nat.min n len * k = 0 := Nat.eq_of_beq_eq_true hq
       have : c'.toList = [] := List.eq_nil_of_length_eq_zero (by omega)
       refine ⟨β, w, _, Up.refl _ β, S, .int _ _, FrameW.refl _ _, Lm.refl _, red base' cap' rfl w ?_⟩
       rw [this]; cases base' <;> rfl
      | false =>
       rw [hq] at h; simp only [cond_false] at h
       split at h
       ·
        cases h
       ·
        rename_i a
        split at h
        ·
         cases h
        ·
         rename_i b hb
         split at h
         ·
          rename_i hs hst
          cases h
          obtain ⟨a', c0, e, hA⟩ := sliceAt_ok hd hb
          cases e
          rw [add_zero] at hA
          obtain ⟨w', g1, g2, g3, g4a, g4b⟩ := storeCells_ok S hA h1 hst
          exact ⟨β, w', _, Up.refl _ β, g2, .int _ _, g3, Lm.of g4a g4b, red _ _ rfl w' g1⟩
         ·
          cases h
   ·
    cases h
  ·
   cases h
theorem zeroCells_list (z : Array Value) (n : Nat) : (Builtin.zeroCells z n).toList = repZ z.toList n := zrep z n
theorem map_write {P : Program} {Wr : Nat → Prop} {β : Inj} {hp : Heap} {w : World} (S : Sim P Wr β hp w) {r B : Nat} {es es' : List (Value × Value)} {ents ents' : Array MapEntry} {clock clock' : Nat} (hg : hp.get r = some (.map es clock)) (hβ : β r = some ⟨B, 0, 0, 0⟩) (hl : hp.lim ≤ r)
 (hw : w.heap[B]? = some (.map ents clock)) (hm : MRs β es' ents'.toList ∧ Rise clock' ents'.toList) :
 ∃ w', (setObj B (.map ents' clock')).run P w = .ok () w' ∧ Sim P Wr β (hp.set r (.map es' clock')) w' ∧ FrameW Wr w w' := by
 refine ⟨{ w with heap := w.heap.setIfInBounds B (.map ents' clock') }, by simp [setObj, Sem.run, hw], ?_⟩
 exact S.write (w' := { w with heap := w.heap.setIfInBounds B (.map ents' clock') }) ⟨_, hg, by simp⟩ hl hβ (o := .map es' clock') (by simp) (fun k hk => by
  have hne : ¬ B = k := fun e => hk e.symm
  simp only; rw [Array.getElem?_setIfInBounds, if_neg hne]) rfl rfl rfl ⟨rfl, ents', by simp [lt_of_get hw], hm⟩
theorem get_run {P : Program} {w : World} {B : Nat} {ents : Array MapEntry} {clock : Nat} (hw : w.heap[B]? = some (.map ents clock)) : (getObj B).run P w = .ok (.map ents clock) w := by simp [getObj, Sem.run, hw]
theorem clearV_ok {E : Env} {Wr : Nat → Prop} {β : Inj} {hp hp' : Heap} {w : World} (S : Sim E.P Wr β hp w) {ts : Array TypeId} {T : TypeId} {x x' v : Value} (hx : VR β x x') (h : clearV E hp ts x = some (v, hp')) :
 WOut E.P Wr β hp w hp' v (Builtin.clear_ ts T #[x']) := by
 unfold clearV at h
 split at h
 ·
  cases h
 ·
  rename_i sT h0
  have e0 : (#[x'] : Array Value)[0]? = some x' := rfl
  split at h
  ·
   rename_i elem hu
   split at h
   ·
    cases hx; cases h
    refine ⟨β, w, _, Up.refl _ β, S, noval, FrameW.refl _ _, Lm.refl _, ?_⟩
    unfold Builtin.clear_; simp [h0, r_underlying hu]
   ·
    rename_i a n cap
    cases hq : Nat.beq n 0 with
    | true =>
     rw [hq] at h; simp only [cond_true] at h
     cases h
     have hq : n = 0 := Nat.eq_of_beq_eq_true hq
     subst hq
     have hd2 : ∃ base' cap', x' = .slice (some base') 0 cap' := by cases hx <;> exact ⟨_, _, rfl⟩
     obtain ⟨base', cap', rfl⟩ := hd2
     refine ⟨β, w, _, Up.refl _ β, S, noval, FrameW.refl _ _, Lm.refl _, ?_⟩
     unfold Builtin.clear_; simp [h0, r_underlying hu]
    | false =>
     rw [hq] at h; simp only [cond_false] at h
     have hq : n ≠ 0 := fun e => by subst e; cases hq
     split at h
     ·
      rename_i z hz
      split at h
      ·
       cases h
      ·
       rename_i b hb
       split at h
       ·
        rename_i hs hst
        cases h
        obtain ⟨a', c0, rfl, hA⟩ := sliceAt_ok hx hb
        rw [add_zero] at hA
        have hrep := VRs.repZ (cells_ok (VR.plain (β := β) 4 z (r_zero (w := w) hz).2)) n
        obtain ⟨w', g1, g2, g3, g4a, g4b⟩ := storeCells_ok S hA hrep hst
        refine ⟨β, w', _, Up.refl _ β, g2, noval, g3, Lm.of g4a g4b, ?_⟩
        obtain ⟨m, rfl⟩ : ∃ m, n = m + 1 := ⟨n - 1, by omega⟩
        unfold Builtin.clear_
        simp only [h0, e0, Sem.run_bind, r_underlying hu, Result.andThen_ok, (r_zero hz).1, zeroCells_list, g1, Sem.run_pure]
       ·
        cases h
     ·
      cases h
   ·
    cases h
  ·
   rename_i key elem hu
   split at h
   ·
    cases hx; cases h
    refine ⟨β, w, _, Up.refl _ β, S, noval, FrameW.refl _ _, Lm.refl _, ?_⟩
    unfold Builtin.clear_; simp [h0, r_underlying hu]
   ·
    rename_i r
    cases hx with | @map _ B hB => ?_
    split at h
    ·
     rename_i es clock hg
     obtain ⟨hl, h⟩ := bif_some h
     cases h
     obtain ⟨B', ents, g1, g2, g3⟩ := S.liveM _ _ _ hg
     rw [hB] at g1; cases g1
     obtain ⟨w', k1, k2, k3⟩ := map_write S (es' := []) (ents' := #[]) (clock' := clock) hg hB (Nat.le_of_ble_eq_true hl) g2 ⟨trivial, Rise.nil _⟩
     refine ⟨β, w', _, Up.refl _ β, k2, noval, k3, ⟨rfl, Nat.le_refl _⟩, ?_⟩
     unfold Builtin.clear_
     simp only [h0, e0, Sem.run_bind, r_underlying hu, Result.andThen_ok, get_run g2, k1, Sem.run_pure]
    ·
     cases h
   ·
    cases h
  ·
   cases h
theorem findM_spec {kd : TypeDesc} {k : Value} : ∀ {es : List (Value × Value)} {j i : Nat} {v : Value}, findM kd k es j = some (some (i, v)) → ∃ m key, i = j + m ∧ es[m]? = some (key, v) ∧ Instr.sameNow kd k key = some true
 | [], j, i, v, h => by simp [findM] at h
 | e :: es, j, i, v, h => by
  simp only [findM] at h
  split at h
  ·
   rename_i hs; simp at h; obtain ⟨rfl, rfl⟩ := h; exact ⟨0, e.1, rfl, by simp, hs⟩
  ·
   obtain ⟨m, key, h1, h2, h3⟩ := findM_spec h; exact ⟨m + 1, key, by omega, by simpa using h2, h3⟩
  ·
   cases h
theorem bytes_beq (a b : ByteArray) (h : (a == b) = true) : a = b := by
 first
 | exact eq_of_beq h
 | exact of_decide_eq_true h
 | (obtain ⟨a⟩ := a; obtain ⟨b⟩ := b; have : (a == b) = true := h; rw [eq_of_beq this])
theorem same_eq {kd : TypeDesc} {k e : Value} (h : Instr.sameNow kd k e = some true) : k = e := by
 unfold Instr.sameNow at h
 split at h
 ·
  split at h
  ·
   rename_i hk; subst hk; simp at h; rw [h]
  ·
   cases h
 ·
  rw [bytes_beq _ _ (Option.some.inj h)]
 ·
  simp at h; rw [h]
 ·
  cases h
theorem MRs.len {β : Inj} : ∀ {es : List (Value × Value)} {l : List MapEntry}, MRs β es l → es.length = l.length
 | [], [], _ => rfl
 | [], _ :: _, h => h.elim
 | _ :: _, [], h => h.elim
 | e :: es, x :: l, h => by simp [MRs.len h.2.2]
theorem MRs.at_ {β : Inj} : ∀ {es : List (Value × Value)} {l : List MapEntry} (m : Nat) {key v : Value}, MRs β es l → es[m]? = some (key, v) → ∃ x, l[m]? = some x ∧ x.key = key
 | [], [], m, key, v, _, h => by simp at h
 | [], _ :: _, _, _, _, h, _ => h.elim
 | _ :: _, [], _, _, _, h, _ => h.elim
 | e :: es, x :: l, 0, key, v, h, hm => by simp at hm; subst hm; exact ⟨x, by simp, h.1.2⟩
 | e :: es, x :: l, m + 1, key, v, h, hm => by
  obtain ⟨y, h1, h2⟩ := MRs.at_ m h.2.2 (by simpa using hm); exact ⟨y, by simpa using h1, h2⟩
theorem plain01 {v : Value} (h : plainN 0 v = true) : plainN 1 v = true := by
 cases v <;> first | exact h | (simp [plainN] at h; done) | (rename_i f _ _; cases f <;> first | exact h | (simp [plainN] at h; done))
theorem MRs.set_ {β : Inj} {k v v' : Value} (hk : plainN 1 k = true) (hv : VR β v v') : ∀ {es : List (Value × Value)} {l : List MapEntry} (m : Nat), MRs β es l → MRs β (es.set m (k, v)) (l.modify m fun e => { e with key := k, val := v' })
 | [], [], m, _ => by cases m <;> exact trivial
 | [], _ :: _, _, h => h.elim
 | _ :: _, [], _, h => h.elim
 | e :: es, x :: l, 0, h => ⟨⟨hk, rfl⟩, hv, h.2.2⟩
 | e :: es, x :: l, m + 1, h => ⟨h.1, h.2.1, MRs.set_ hk hv m h.2.2⟩
theorem MRs.push_ {β : Inj} {k v v' : Value} (hk : plainN 1 k = true) (hv : VR β v v') (b : Nat) : ∀ {es : List (Value × Value)} {l : List MapEntry}, MRs β es l → MRs β (es ++ [(k, v)]) (l ++ [{ key := k, val := v', born := b }])
 | [], [], _ => ⟨⟨hk, rfl⟩, hv, trivial⟩
 | [], _ :: _, h => h.elim
 | _ :: _, [], h => h.elim
 | e :: es, x :: l, h => ⟨h.1, h.2.1, MRs.push_ hk hv b h.2.2⟩
theorem MRs.erase_ {β : Inj} : ∀ {es : List (Value × Value)} {l : List MapEntry} (m : Nat), MRs β es l → MRs β (es.eraseIdx m) (l.eraseIdx m)
 | [], [], m, _ => by cases m <;> exact trivial
 | [], _ :: _, _, h => h.elim
 | _ :: _, [], _, h => h.elim
 | e :: es, x :: l, 0, h => h.2.2
 | e :: es, x :: l, m + 1, h => ⟨h.1, h.2.1, MRs.erase_ m h.2.2⟩
theorem updateV_ok {E : Env} {Wr : Nat → Prop} {β : Inj} {hp hp' : Heap} {w : World} (S : Sim E.P Wr β hp w) {t : TypeId} {m k v m' k' v' : Value} (hm : VR β m m') (hk : VR β k k') (hv : VR β v v') (h : updateV E hp t m k v = some hp') :
 ∃ w', (Instr.mapUpdate t m' k' v').run E.P w = .ok () w' ∧ Sim E.P Wr β hp' w' ∧ FrameW Wr w w' ∧ Lm hp hp' := by
 unfold updateV at h
 split at h
 ·
  rename_i key elem hu
  split at h
  ·
   rename_i kd r hkd0
   obtain ⟨hpl, hkd⟩ := bif_some hkd0
   have := plain0_eq hpl hk; subst this
   cases hm with | @map _ B hB => ?_
   split at h
   ·
    rename_i es clock hg
    obtain ⟨hl, h⟩ := bif_some h
    have hl := Nat.le_of_ble_eq_true hl
    obtain ⟨B', ents, g1, g2, g3⟩ := S.liveM _ _ _ hg
    rw [hB] at g1; cases g1
    split at h
    ·
     rename_i i u hf
     cases h
     obtain ⟨r', f1, f2⟩ := findKey_ok hkd g3.1 hf
     cases r' with
     | none => exact f2.elim
     | some r' =>
      obtain ⟨j', u'⟩ := r'
      obtain ⟨rfl, hu'⟩ := f2
      obtain ⟨q, key', e1, e2, e3⟩ := findM_spec hf
      have e1 : j' = q := by omega
      subst e1
      have := same_eq e3; subst this
      obtain ⟨x, y1, y2⟩ := g3.1.at_ j' e2
      have y1' : ents[j']? = some x := by rw [← Array.getElem?_toList]; exact y1
      obtain ⟨w', k1, k2, k3⟩ := map_write S (es' := es.set j' (k', v)) (ents' := ents.modify j' fun e => { e with key := k', val := v' }) (clock' := clock) hg hB hl g2 (by
       refine ⟨?_, g3.2.born ?_⟩
       ·
        have := MRs.set_ (plain01 hpl) hv j' g3.1
        simpa using this
       ·
        rw [Array.toList_modify]
        apply List.ext_getElem?
        intro i
        rw [List.getElem?_map, List.getElem?_map, List.getElem?_modify]
        split <;> cases ents.toList[i]? <;> rfl)
      refine ⟨w', ?_, k2, k3, ⟨rfl, Nat.le_refl _⟩⟩
      have hst : (Instr.keyThatStays k' k').run E.P w = .ok k' w := by
       have : Instr.sameBits 10000 k' k' = true := by
        obtain ⟨_, hkk⟩ := scalarT_eq hkd
        unfold Instr.sameNow at e3
        split at e3
        ·
         simp [Instr.sameBits]
        ·
         exact Option.some.inj e3
        ·
         simp [Instr.sameBits]
        ·
         cases e3
       simp [Instr.keyThatStays, this]
      simp only [Instr.mapUpdate, Sem.run_bind, r_underlying hu, Result.andThen_ok, get_run g2, checkKey_ok hkd, f1, y1', Option.map_some, Option.getD_some, y2, hst, k1]
    ·
     rename_i hf
     cases h
     obtain ⟨r', f1, f2⟩ := findKey_ok hkd g3.1 hf
     cases r' with
     | some r' => exact f2.elim
     | none =>
      obtain ⟨w', k1, k2, k3⟩ := map_write S (es' := es ++ [(k', v)]) (ents' := ents.push { key := k', val := v', born := clock }) (clock' := clock + 1) hg hB hl g2 (by
       refine ⟨?_, ?_⟩
       ·
        have := MRs.push_ (plain01 hpl) hv clock g3.1
        simpa using this
       ·
        have := g3.2.push k' v'
        simpa using this)
      refine ⟨w', ?_, k2, k3, ⟨rfl, Nat.le_refl _⟩⟩
      simp only [Instr.mapUpdate, Sem.run_bind, r_underlying hu, Result.andThen_ok, get_run g2, checkKey_ok hkd, f1, k1]
    ·
     cases h
   ·
    cases h
  ·
   cases h
 ·
  cases h
theorem deleteV_ok {E : Env} {Wr : Nat → Prop} {β : Inj} {hp hp' : Heap} {w : World} (S : Sim E.P Wr β hp w) {ts : Array TypeId} {T : TypeId} {m k m' k' v : Value} (hm : VR β m m') (hk : VR β k k') (h : deleteV E hp ts m k = some (v, hp')) :
 WOut E.P Wr β hp w hp' v (Builtin.delete_ ts T #[m', k']) := by
 unfold deleteV at h
 split at h
 ·
  cases h
 ·
  rename_i mT h0
  have e0 : (#[m', k'] : Array Value)[0]? = some m' := rfl
  have e1 : (#[m', k'] : Array Value)[1]? = some k' := rfl
  split at h
  ·
   rename_i key elem hu
   split at h
   ·
    rename_i kd hkd0
    obtain ⟨hpl, hkd⟩ := bif_some hkd0
    have := plain0_eq hpl hk; subst this
    split at h
    ·
     cases hm; cases h
     refine ⟨β, w, _, Up.refl _ β, S, noval, FrameW.refl _ _, Lm.refl _, ?_⟩
     unfold Builtin.delete_
     simp only [h0, e0, e1, Sem.run_bind, r_underlying hu, Result.andThen_ok, checkKey_ok hkd, Sem.run_pure]
    ·
     rename_i r
     cases hm with | @map _ B hB => ?_
     split at h
     ·
      rename_i es clock hg
      obtain ⟨hl, h⟩ := bif_some h
      have hl := Nat.le_of_ble_eq_true hl
      obtain ⟨B', ents, g1, g2, g3⟩ := S.liveM _ _ _ hg
      rw [hB] at g1; cases g1
      split at h
      ·
       rename_i i u hf
       cases h
       obtain ⟨r', f1, f2⟩ := findKey_ok hkd g3.1 hf
       cases r' with
       | none => exact f2.elim
       | some r' =>
        obtain ⟨j', u'⟩ := r'
        obtain ⟨rfl, hu'⟩ := f2
        obtain ⟨w', k1, k2, k3⟩ := map_write S (es' := es.eraseIdx j') (ents' := ents.eraseIdxIfInBounds j') (clock' := clock) hg hB hl g2 (by
         refine ⟨?_, g3.2.sub ?_⟩
         ·
          have := MRs.erase_ j' g3.1
          simpa using this
         ·
          rw [Array.toList_eraseIdxIfInBounds]
          exact List.eraseIdx_sublist _ _)
        refine ⟨β, w', _, Up.refl _ β, k2, noval, k3, ⟨rfl, Nat.le_refl _⟩, ?_⟩
        unfold Builtin.delete_
        simp only [h0, e0, e1, Sem.run_bind, r_underlying hu, Result.andThen_ok, get_run g2, checkKey_ok hkd, f1, k1, Sem.run_pure]
      ·
       rename_i hf
       cases h
       obtain ⟨r', f1, f2⟩ := findKey_ok hkd g3.1 hf
       cases r' with
       | some r' => exact f2.elim
       | none =>
        obtain ⟨w', k1, k2, k3⟩ := map_write S (es' := es) (ents' := ents) (clock' := clock) hg hB hl g2 g3
        refine ⟨β, w', _, Up.refl _ β, k2, noval, k3, ⟨rfl, Nat.le_refl _⟩, ?_⟩
        unfold Builtin.delete_
        simp only [h0, e0, e1, Sem.run_bind, r_underlying hu, Result.andThen_ok, get_run g2, checkKey_ok hkd, f1, k1, Sem.run_pure]
      ·
       cases h
     ·
      cases h
    ·
     cases h
   ·
    cases h
  ·
   cases h
end Go.Proofs.YtokfjifeofpkkaaGreat.V
namespace Go.Proofs.YtokfjifeofpkkaaGreat.V
open Go
set_option linter.unusedVariables false
set_option linter.unusedSimpArgs false
structure Msk (S : Nat → Bool) (f h : Heap) : Prop where
 base : h.base = f.base
 lim : h.lim = f.lim
 n : h.n = f.n
 dead : ∀ b, S b = true → f.get b = some .dead
 get : ∀ b, S b = false → h.get b = f.get b
 lt : ∀ b, S b = true → b < f.n
def Kept (S : Nat → Bool) (h h' : Heap) : Prop := ∀ b, S b = true → h'.get b = h.get b
theorem Kept.refl (S : Nat → Bool) (h : Heap) : Kept S h h := fun _ _ => rfl
theorem Kept.trans {S : Nat → Bool} {a b c : Heap} (h : Kept S a b) (k : Kept S b c) : Kept S a c := fun x hx => (k x hx).trans (h x hx)
namespace Msk
variable {S : Nat → Bool} {f h : Heap}
theorem out (m : Msk S f h) {b : Nat} {o : O} (hb : f.get b = some o) (ho : o ≠ .dead) : S b = false := by
 cases e : S b
 ·
  rfl
 ·
  rw [m.dead b e] at hb; cases hb; exact absurd rfl ho
theorem cells (m : Msk S f h) {b : Nat} {c : List Value} {T : TypeId} (hb : f.get b = some (.cells c T)) : h.get b = some (.cells c T) := by
 rw [m.get b (m.out hb (by intro e; cases e))]; exact hb
theorem iter (m : Msk S f h) {b r : Nat} {s : Bool} (hb : f.get b = some (.iter r s)) : h.get b = some (.iter r s) := by
 rw [m.get b (m.out hb (by intro e; cases e))]; exact hb
theorem map (m : Msk S f h) {b : Nat} {es : List (Value × Value)} {c : Nat} (hb : f.get b = some (.map es c)) : h.get b = some (.map es c) := by
 rw [m.get b (m.out hb (by intro e; cases e))]; exact hb
theorem cellAt (m : Msk S f h) {a : Addr} {v : Value} (hc : V.cellAt f a = some v) : V.cellAt h a = some v := by
 unfold V.cellAt at hc ⊢
 split at hc
 ·
  split at hc
  ·
   rename_i c T hg; rw [m.cells hg]; exact hc
  ·
   cases hc
 ·
  rw [m.base]; exact hc
 ·
  cases hc
theorem baseCells (m : Msk S f h) (b : Nat) : ∀ (n o : Nat), V.baseCells h b o n = V.baseCells f b o n
 | 0, o => rfl
 | n + 1, o => by simp only [V.baseCells, m.base, Msk.baseCells m b n]
theorem cellsAt (m : Msk S f h) {a : Addr} {n : Nat} {l : List Value} (hc : V.cellsAt f a n = some l) : V.cellsAt h a n = some l := by
 unfold V.cellsAt at hc ⊢
 split at hc
 ·
  split at hc
  ·
   rename_i c T hg; rw [m.cells hg]; exact hc
  ·
   cases hc
 ·
  rw [m.baseCells]; exact hc
 ·
  cases hc
theorem mapOf (m : Msk S f h) {v : Value} {es : List (Value × Value)} (hc : V.mapOf f v = some es) : V.mapOf h v = some es := by
 unfold V.mapOf at hc ⊢
 split at hc
 ·
  exact hc
 ·
  split at hc
  ·
   rename_i hg; rw [m.map hg]; exact hc
  ·
   cases hc
 ·
  cases hc
theorem slack (m : Msk S f h) {a : Addr} {t : TypeId} (hc : slackOk f a t = true) : slackOk h a t = true := by
 unfold slackOk at hc ⊢
 split at hc
 ·
  split at hc
  ·
   rename_i hg; rw [m.cells hg]; exact hc
  ·
   cases hc
 ·
  exact hc
theorem set (m : Msk S f h) {b : Nat} (hb : S b = false) (o : O) : Msk S (f.set b o) (h.set b o) ∧ Kept S h (h.set b o) := by
 have ne : ∀ x, S x = true → b ≠ x := by intro x hx e; subst e; rw [hb] at hx; cases hx
 exact ⟨⟨m.base, m.lim, m.n, fun x hx => by rw [get_set, if_neg (ne x hx)]; exact m.dead x hx,
  fun x hx => by
   rw [get_set, get_set]; split
   ·
    rfl
   ·
    exact m.get x hx,
  m.lt⟩, fun x hx => by rw [get_set, if_neg (ne x hx)]⟩
theorem alloc (m : Msk S f h) (o : O) : Msk S (f.alloc o) (h.alloc o) ∧ Kept S h (h.alloc o) := by
 have ne : ∀ x, S x = true → ¬ f.n = x := by intro x hx e; have := m.lt x hx; omega
 exact ⟨⟨m.base, m.lim, by show h.n + 1 = f.n + 1; rw [m.n], fun x hx => by rw [get_alloc, if_neg (ne x hx)]; exact m.dead x hx,
  fun x hx => by
   rw [get_alloc, get_alloc, m.n]; split
   ·
    rfl
   ·
    exact m.get x hx,
  fun x hx => Nat.lt_succ_of_lt (m.lt x hx)⟩, fun x hx => by rw [get_alloc, m.n, if_neg (ne x hx)]⟩
theorem limN (m : Msk S f h) : Msk S { f with lim := f.n } { h with lim := h.n } := ⟨m.base, m.n, m.n, m.dead, m.get, m.lt⟩
theorem loadV (m : Msk S f h) {E : Env} {t : TypeId} {a : Addr} {v : Value} (hc : V.loadV E f t a = some v) : V.loadV E h t a = some v := by
 unfold V.loadV at hc ⊢
 split at hc
 ·
  split at hc
  ·
   rename_i n hn
   cases e : V.cellsAt f a n with
   | none => rw [e] at hc; cases hc
   | some l => rw [e] at hc; rw [m.cellsAt e]; exact hc
  ·
   cases hc
 ·
  exact m.cellAt hc
 ·
  cases hc
theorem sliceV (m : Msk S f h) {E : Env} {t : TypeId} {x v : Value} {lo hi mx : Option Value} (hc : V.sliceV E f t x lo hi mx = some v) : V.sliceV E h t x lo hi mx = some v := by
 unfold V.sliceV at hc ⊢
 split at hc
 ·
  exact hc
 ·
  split at hc
  ·
   cases hc
  ·
   rename_i m' hm
   cases e0 : mx.isSome && hi.isNone with
   | true => rw [e0] at hc; cases hc
   | false =>
    rw [e0] at hc
    simp only [cond_false] at hc ⊢
    split at hc
    ·
     cases hc
    ·
     split at hc
     ·
      cases hc
     ·
      split at hc
      ·
       cases hc
      ·
       split at hc
       ·
        exact hc
       ·
        rename_i a
        cases e1 : (Nat.ble _ m' && (mx.isSome || slackOk f a _)) with
        | false => rw [e1] at hc; cases hc
        | true =>
         rw [e1] at hc
         have e2 := e1
         simp only [Bool.and_eq_true, Bool.or_eq_true] at e2
         have q2 : (mx.isSome = true ∨ slackOk h a _ = true) := e2.2.imp id m.slack
         have q3 := (Bool.and_eq_true _ _).mpr ⟨e2.1, (Bool.or_eq_true _ _).mpr q2⟩
         rw [q3]
         exact hc
 ·
  cases hc
theorem lookupV (m : Msk S f h) {E : Env} {t : TypeId} {x k v : Value} {ok : Bool} (hc : V.lookupV E f t x k ok = some v) : V.lookupV E h t x k ok = some v := by
 unfold V.lookupV at hc ⊢
 split at hc
 ·
  split at hc
  ·
   cases e : V.mapOf f x with
   | none => rw [e] at hc; cases hc
   | some es => rw [e] at hc; rw [m.mapOf e]; exact hc
  ·
   cases hc
 ·
  cases hc
theorem lenV (m : Msk S f h) {E : Env} {t : TypeId} {x v : Value} (hc : V.lenV E f t x = some v) : V.lenV E h t x = some v := by
 unfold V.lenV at hc ⊢
 split at hc
 ·
  exact hc
 ·
  exact hc
 ·
  split at hc
  ·
   rename_i es e
   rw [m.mapOf e]; exact hc
  ·
   cases hc
 ·
  exact hc
 ·
  cases hc
theorem convH (m : Msk S f h) {E : Env} {src dst : TypeId} {x v : Value} (hc : V.convH E f src dst x = some v) : V.convH E h src dst x = some v := by
 unfold V.convH at hc ⊢
 split at hc
 ·
  split at hc
  ·
   split at hc
   ·
    rename_i l hl
    rw [m.cellsAt hl]
    exact hc
   ·
    cases hc
  ·
   cases hc
 ·
  cases hc
theorem readV (m : Msk S f h) {E : Env} {fr : Fr} {op : Op} {v : Value} (hc : V.readV E fr f op = some v) : V.readV E fr h op = some v := by
 cases op
 case convert src dst x =>
  unfold V.readV at hc ⊢; dsimp only at hc ⊢; split at hc
  ·
   rename_i u hu
   cases hq : convV E src dst u with
   | some v0 => rw [hq] at hc; exact hc
   | none => rw [hq] at hc; exact m.convH hc
  ·
   cases hc
 case load t x =>
  unfold V.readV at hc ⊢; dsimp only at hc ⊢; split at hc
  ·
   exact m.loadV hc
  ·
   cases hc
 case slice t x lo hi mx =>
  unfold V.readV at hc ⊢; dsimp only at hc ⊢; split at hc
  ·
   exact m.sliceV hc
  ·
   cases hc
 case lookup t x k ok =>
  unfold V.readV at hc ⊢; dsimp only at hc ⊢; split at hc
  ·
   exact m.lookupV hc
  ·
   cases hc
 case call c =>
  unfold V.readV at hc ⊢; dsimp only at hc ⊢
  split at hc
  ·
   split at hc
   ·
    split at hc
    ·
     exact m.lenV hc
    ·
     cases hc
   ·
    cases hc
  all_goals exact hc
 all_goals exact hc
theorem storeCells (m : Msk S f h) {a : Addr} {vs : List Value} {f' : Heap} (hc : V.storeCells f a vs = some f') : ∃ h', V.storeCells h a vs = some h' ∧ Msk S f' h' ∧ Kept S h h' := by
 unfold V.storeCells at hc ⊢
 split at hc
 ·
  split at hc
  ·
   rename_i c T hg
   cases e1 : (Nat.ble f.lim a.block && Nat.ble (a.off + vs.length) c.length && vs.all cellOk) with
   | false => rw [e1] at hc; cases hc
   | true =>
    rw [e1] at hc
    simp only [cond_true, Option.some.injEq] at hc
    subst hc
    rw [m.cells hg]
    dsimp only
    rw [m.lim, e1]
    exact ⟨_, rfl, m.set (m.out hg (by intro e; cases e)) _⟩
  ·
   cases hc
 ·
  cases hc
theorem storeV (m : Msk S f h) {E : Env} {t : TypeId} {a v : Value} {f' : Heap} (hc : V.storeV E f t a v = some f') : ∃ h', V.storeV E h t a v = some h' ∧ Msk S f' h' ∧ Kept S h h' := by
 unfold V.storeV at hc ⊢
 split at hc
 ·
  split at hc
  ·
   rename_i k hk
   cases e1 : Nat.beq v.cells.size k with
   | false => rw [e1] at hc; cases hc
   | true => rw [e1] at hc; exact m.storeCells hc
  ·
   cases hc
 ·
  cases hc
theorem firstV (m : Msk S f h) {k n : Nat} {x : Value} {l : List Value} (hc : V.firstV f k n x = some l) : V.firstV h k n x = some l := by
 unfold V.firstV at hc ⊢
 split at hc
 ·
  cases e1 : Nat.beq (n * k) 0 with
  | true => rw [e1] at hc; exact hc
  | false =>
   rw [e1] at hc
   simp only [cond_false] at hc ⊢
   split at hc
   ·
    exact m.cellsAt hc
   ·
    cases hc
 ·
  exact hc
 ·
  exact hc
 ·
  cases hc
theorem newV (m : Msk S f h) {E : Env} {t k b : Nat} {z : Bool} {x : Value} {r : Nat × List Value} (hc : V.newV E f t k b z x = some r) : V.newV E h t k b z x = some r := by
 unfold V.newV at hc ⊢
 cases z
 ·
  simp only [cond_false] at hc ⊢
  split at hc
  ·
   rename_i n hn
   cases e : V.firstV f k n x with
   | none => rw [e] at hc; cases hc
   | some c => rw [e] at hc; rw [m.firstV e]; exact hc
  ·
   cases hc
 ·
  exact hc
theorem putV (m : Msk S f h) {a : Option Addr} {l c n k : Nat} {new : List Value} {v : Value} {f' : Heap} (hc : V.putV f a l c n k new = some (v, f')) :
 ∃ h', V.putV h a l c n k new = some (v, h') ∧ Msk S f' h' ∧ Kept S h h' := by
 unfold V.putV at hc ⊢
 cases e1 : Nat.beq (n * k) 0 with
 | true =>
  rw [e1] at hc
  simp only [cond_true, Option.some.injEq, Prod.mk.injEq] at hc ⊢
  obtain ⟨h1, h2⟩ := hc
  subst h1 h2
  exact ⟨h, ⟨rfl, rfl⟩, m, Kept.refl _ _⟩
 | false =>
  rw [e1] at hc
  simp only [cond_false] at hc ⊢
  split at hc
  ·
   cases hc
  ·
   split at hc
   ·
    cases hc
   ·
    split at hc
    ·
     rename_i h2 hs
     simp only [Option.some.injEq, Prod.mk.injEq] at hc
     obtain ⟨h1, h2⟩ := hc
     subst h1 h2
     obtain ⟨h', e, m', k'⟩ := m.storeCells hs
     rw [e]
     exact ⟨h', rfl, m', k'⟩
    ·
     cases hc
theorem growV (m : Msk S f h) {a : Option Addr} {l c n k el : Nat} {new : List Value} {v : Value} {f' : Heap} (hc : V.growV f a l c n k el new = some (v, f')) :
 ∃ h', V.growV h a l c n k el new = some (v, h') ∧ Msk S f' h' ∧ Kept S h h' := by
 unfold V.growV at hc ⊢
 split at hc
 ·
  cases e1 : Nat.beq l 0 with
  | false => rw [e1] at hc; cases hc
  | true =>
   rw [e1] at hc
   simp only [cond_true, Option.some.injEq, Prod.mk.injEq] at hc ⊢
   obtain ⟨h1, h2⟩ := hc
   subst h1 h2
   exact ⟨_, ⟨by rw [m.n], rfl⟩, m.alloc _⟩
 ·
  rename_i a
  cases e0 : isSlack a with
  | true =>
   rw [e0] at hc
   simp only [cond_true] at hc ⊢
   split at hc
   ·
    rename_i c' T hg
    rw [m.cells hg]
    dsimp only
    rw [m.lim]
    cases e1 : (Nat.ble f.lim a.block && Nat.beq T el && Nat.ble (a.off + l * k) c'.length && new.all cellOk) with
    | false => rw [e1] at hc; cases hc
    | true =>
     rw [e1] at hc
     simp only [cond_true, Option.some.injEq, Prod.mk.injEq] at hc ⊢
     obtain ⟨h1, h2⟩ := hc
     subst h1 h2
     obtain ⟨m1, k1⟩ := m.set (m.out hg (by intro e; cases e)) .dead
     obtain ⟨m2, k2⟩ := m1.alloc (.cells ((c'.drop a.off).take (l * k) ++ new) el)
     exact ⟨_, ⟨by rw [m.n], rfl⟩, m2, k1.trans k2⟩
   ·
    cases hc
  | false =>
   rw [e0] at hc
   simp only [cond_false] at hc ⊢
   split at hc
   ·
    cases hc
   ·
    split at hc
    ·
     rename_i old ho
     simp only [Option.some.injEq, Prod.mk.injEq] at hc
     obtain ⟨h1, h2⟩ := hc
     subst h1 h2
     rw [m.firstV ho]
     simp only [m.n]
     exact ⟨_, rfl, m.alloc _⟩
    ·
     cases hc
theorem appendV (m : Msk S f h) {E : Env} {ts : Array TypeId} {s x v : Value} {f' : Heap} (hc : V.appendV E f ts s x = some (v, f')) :
 ∃ h', V.appendV E h ts s x = some (v, h') ∧ Msk S f' h' ∧ Kept S h h' := by
 unfold V.appendV at hc ⊢
 split at hc
 ·
  cases hc
 ·
  split at hc
  ·
   split at hc
   ·
    split at hc
    ·
     rename_i elem hel _ _ _ _ k bytes z zs e1 e2 e3 e4 _ base len cap
     cases e5 : V.newV E f elem k bytes zs x with
     | none => rw [e5] at hc; cases hc
     | some r =>
      obtain ⟨n, new⟩ := r
      rw [e5] at hc; rw [m.newV e5]
      dsimp only at hc ⊢
      cases e6 : Nat.beq new.length (n * k) with
      | false => rw [e6] at hc; cases hc
      | true =>
       rw [e6] at hc
       simp only [cond_true] at hc ⊢
       cases e7 : Nat.ble (len + n) cap with
       | true => rw [e7] at hc; exact m.putV hc
       | false =>
        rw [e7] at hc
        simp only [cond_false] at hc ⊢
        cases e8 : roomy (len + n) bytes && Nat.beq z.cells.size k with
        | false => rw [e8] at hc; cases hc
        | true => rw [e8] at hc; exact m.growV hc
    ·
     cases hc
   ·
    cases hc
  ·
   cases hc
theorem copyV (m : Msk S f h) {E : Env} {ts : Array TypeId} {s x v : Value} {f' : Heap} (hc : V.copyV E f ts s x = some (v, f')) :
 ∃ h', V.copyV E h ts s x = some (v, h') ∧ Msk S f' h' ∧ Kept S h h' := by
 unfold V.copyV at hc ⊢
 split at hc
 ·
  cases hc
 ·
  split at hc
  ·
   split at hc
   ·
    rename_i k base len cap n e1 e2
    cases e5 : V.firstV f k (Nat.min n len) x with
    | none => rw [e5] at hc; cases hc
    | some c =>
     rw [e5] at hc; rw [m.firstV e5]
     dsimp only at hc ⊢
     cases e6 : !Nat.beq c.length (Nat.min n len * k) with
     | true => rw [e6] at hc; cases hc
     | false =>
      rw [e6] at hc
      simp only [cond_false] at hc ⊢
      cases e7 : Nat.beq (Nat.min n len * k) 0 with
      | true =>
       rw [e7] at hc
       simp only [cond_true, Option.some.injEq, Prod.mk.injEq] at hc ⊢
       obtain ⟨h1, h2⟩ := hc
       subst h1 h2
       exact ⟨h, ⟨rfl, rfl⟩, m, Kept.refl _ _⟩
      | false =>
       rw [e7] at hc
       simp only [cond_false] at hc ⊢
       split at hc
       ·
        cases hc
       ·
        split at hc
        ·
         cases hc
        ·
         split at hc
         ·
          rename_i h2 hs
          simp only [Option.some.injEq, Prod.mk.injEq] at hc
          obtain ⟨h1, h2⟩ := hc
          subst h1 h2
          obtain ⟨h', e, m', k'⟩ := m.storeCells hs
          rw [e]
          exact ⟨h', rfl, m', k'⟩
         ·
          cases hc
   ·
    cases hc
  ·
   cases hc
theorem clearV (m : Msk S f h) {E : Env} {ts : Array TypeId} {x v : Value} {f' : Heap} (hc : V.clearV E f ts x = some (v, f')) :
 ∃ h', V.clearV E h ts x = some (v, h') ∧ Msk S f' h' ∧ Kept S h h' := by
 unfold V.clearV at hc ⊢
 split at hc
 ·
  cases hc
 ·
  split at hc
  ·
   split at hc
   ·
    simp only [Option.some.injEq, Prod.mk.injEq] at hc
    obtain ⟨h1, h2⟩ := hc
    subst h1 h2
    exact ⟨h, rfl, m, Kept.refl _ _⟩
   ·
    rename_i a n cap
    cases e7 : Nat.beq n 0 with
    | true =>
     rw [e7] at hc
     simp only [cond_true, Option.some.injEq, Prod.mk.injEq] at hc ⊢
     obtain ⟨h1, h2⟩ := hc
     subst h1 h2
     exact ⟨h, ⟨rfl, rfl⟩, m, Kept.refl _ _⟩
    | false =>
     rw [e7] at hc
     simp only [cond_false] at hc ⊢
     split at hc
     ·
      split at hc
      ·
       cases hc
      ·
       split at hc
       ·
        rename_i h2 hs
        simp only [Option.some.injEq, Prod.mk.injEq] at hc
        obtain ⟨h1, h2⟩ := hc
        subst h1 h2
        obtain ⟨h', e, m', k'⟩ := m.storeCells hs
        rw [e]
        exact ⟨h', rfl, m', k'⟩
       ·
        cases hc
     ·
      cases hc
   ·
    cases hc
  ·
   split at hc
   ·
    simp only [Option.some.injEq, Prod.mk.injEq] at hc
    obtain ⟨h1, h2⟩ := hc
    subst h1 h2
    exact ⟨h, rfl, m, Kept.refl _ _⟩
   ·
    split at hc
    ·
     rename_i r _ es c0 hg
     cases e7 : Nat.ble f.lim r with
     | false => rw [e7] at hc; cases hc
     | true =>
      rw [e7] at hc
      simp only [cond_true, Option.some.injEq, Prod.mk.injEq] at hc ⊢
      obtain ⟨h1, h2⟩ := hc
      subst h1 h2
      rw [m.map hg]
      simp only [m.lim, e7, cond_true]
      exact ⟨_, rfl, m.set (m.out hg (by intro e; cases e)) _⟩
    ·
     cases hc
   ·
    cases hc
  ·
   cases hc
theorem deleteV (m : Msk S f h) {E : Env} {ts : Array TypeId} {x k v : Value} {f' : Heap} (hc : V.deleteV E f ts x k = some (v, f')) :
 ∃ h', V.deleteV E h ts x k = some (v, h') ∧ Msk S f' h' ∧ Kept S h h' := by
 unfold V.deleteV at hc ⊢
 split at hc
 ·
  cases hc
 ·
  split at hc
  ·
   split at hc
   ·
    split at hc
    ·
     simp only [Option.some.injEq, Prod.mk.injEq] at hc
     obtain ⟨h1, h2⟩ := hc
     subst h1 h2
     exact ⟨h, rfl, m, Kept.refl _ _⟩
    ·
     split at hc
     ·
      rename_i r _ es c0 hg
      cases e7 : Nat.ble f.lim r with
      | false => rw [e7] at hc; cases hc
      | true =>
       rw [e7] at hc
       rw [m.map hg]
       simp only [cond_true, m.lim, e7] at hc ⊢
       split at hc
       ·
        simp only [Option.some.injEq, Prod.mk.injEq] at hc
        obtain ⟨h1, h2⟩ := hc
        subst h1 h2
        exact ⟨_, rfl, m.set (m.out hg (by intro e; cases e)) _⟩
       ·
        simp only [Option.some.injEq, Prod.mk.injEq] at hc
        obtain ⟨h1, h2⟩ := hc
        subst h1 h2
        exact ⟨_, rfl, m.set (m.out hg (by intro e; cases e)) _⟩
       ·
        cases hc
     ·
      cases hc
    ·
     cases hc
   ·
    cases hc
  ·
   cases hc
theorem updateV (m : Msk S f h) {E : Env} {t : TypeId} {x k v : Value} {f' : Heap} (hc : V.updateV E f t x k v = some f') :
 ∃ h', V.updateV E h t x k v = some h' ∧ Msk S f' h' ∧ Kept S h h' := by
 unfold V.updateV at hc ⊢
 split at hc
 ·
  split at hc
  ·
   split at hc
   ·
    rename_i r _ _ es c0 hg
    cases e7 : Nat.ble f.lim r with
    | false => rw [e7] at hc; cases hc
    | true =>
     rw [e7] at hc
     rw [m.map hg]
     simp only [cond_true, m.lim, e7] at hc ⊢
     split at hc
     ·
      simp only [Option.some.injEq] at hc
      subst hc
      exact ⟨_, rfl, m.set (m.out hg (by intro e; cases e)) _⟩
     ·
      simp only [Option.some.injEq] at hc
      subst hc
      exact ⟨_, rfl, m.set (m.out hg (by intro e; cases e)) _⟩
     ·
      cases hc
   ·
    cases hc
  ·
   cases hc
 ·
  cases hc
theorem mkMapV (m : Msk S f h) {E : Env} {t : TypeId} {r : Option Operand} {v : Value} {f' : Heap} (hc : V.mkMapV E f t r = some (v, f')) :
 ∃ h', V.mkMapV E h t r = some (v, h') ∧ Msk S f' h' ∧ Kept S h h' := by
 unfold V.mkMapV at hc ⊢
 split at hc
 ·
  simp only [Option.some.injEq, Prod.mk.injEq] at hc
  obtain ⟨h1, h2⟩ := hc
  subst h1 h2
  exact ⟨_, by rw [m.n], m.alloc _⟩
 ·
  split at hc
  ·
   simp only [Option.some.injEq, Prod.mk.injEq] at hc
   obtain ⟨h1, h2⟩ := hc
   subst h1 h2
   exact ⟨_, by rw [m.n], m.alloc _⟩
  ·
   cases hc
 ·
  cases hc
theorem writeV (m : Msk S f h) {E : Env} {fr : Fr} {op : Op} {v : Value} {f' : Heap} (hc : V.writeV E fr f op = some (v, f')) :
 ∃ h', V.writeV E fr h op = some (v, h') ∧ Msk S f' h' ∧ Kept S h h' := by
 cases op
 case alloc t =>
  unfold V.writeV at hc ⊢; dsimp only at hc ⊢
  split at hc
  ·
   simp only [Option.some.injEq, Prod.mk.injEq] at hc
   obtain ⟨h1, h2⟩ := hc
   subst h1 h2
   exact ⟨_, by rw [m.n], m.alloc _⟩
  ·
   cases hc
 case box t x =>
  unfold V.writeV at hc ⊢; dsimp only at hc ⊢
  split at hc
  ·
   simp only [Option.some.injEq, Prod.mk.injEq] at hc
   obtain ⟨h1, h2⟩ := hc
   subst h1 h2
   exact ⟨_, by rw [m.n], m.alloc _⟩
  ·
   cases hc
 case buildSlice t len parts =>
  unfold V.writeV at hc ⊢; dsimp only at hc ⊢
  split at hc
  ·
   split at hc
   ·
    rename_i k z _ _
    cases e1 : (Nat.ble (len * k) 16777216 && Nat.beq z.cells.size k) with
    | false => rw [e1] at hc; cases hc
    | true =>
     rw [e1] at hc
     simp only [cond_true] at hc ⊢
     split at hc
     ·
      simp only [Option.some.injEq, Prod.mk.injEq] at hc
      obtain ⟨h1, h2⟩ := hc
      subst h1 h2
      exact ⟨_, by rw [m.n], m.alloc _⟩
     ·
      cases hc
   ·
    cases hc
  ·
   cases hc
 case makeMap t r =>
  unfold V.writeV at hc ⊢; dsimp only at hc ⊢
  exact m.mkMapV hc
 case makeSlice t l c =>
  unfold V.writeV at hc ⊢; dsimp only at hc ⊢
  split at hc
  ·
   split at hc
   ·
    rename_i l c _ _ _ _ _ k b z _ _ _
    revert hc
    generalize (and _ (Nat.beq z.cells.size k)) = q
    intro hc
    cases q with
    | true =>
     simp only [cond_true, Option.some.injEq, Prod.mk.injEq] at hc ⊢
     obtain ⟨h1, h2⟩ := hc
     subst h1 h2
     exact ⟨_, ⟨by rw [m.n], rfl⟩, m.alloc _⟩
    | false => cases hc
   ·
    cases hc
  ·
   cases hc
 case store t a x =>
  unfold V.writeV at hc ⊢; dsimp only at hc ⊢
  split at hc
  ·
   split at hc
   ·
    rename_i h2 hs
    simp only [Option.some.injEq, Prod.mk.injEq] at hc
    obtain ⟨h1, h2⟩ := hc
    subst h1 h2
    obtain ⟨h', e, m', k'⟩ := m.storeV hs
    rw [e]
    exact ⟨h', rfl, m', k'⟩
   ·
    cases hc
  ·
   cases hc
 case mapUpdate t x k y =>
  unfold V.writeV at hc ⊢; dsimp only at hc ⊢
  split at hc
  ·
   split at hc
   ·
    rename_i h2 hs
    simp only [Option.some.injEq, Prod.mk.injEq] at hc
    obtain ⟨h1, h2⟩ := hc
    subst h1 h2
    obtain ⟨h', e, m', k'⟩ := m.updateV hs
    rw [e]
    exact ⟨h', rfl, m', k'⟩
   ·
    cases hc
  ·
   cases hc
 case insert t x k y =>
  unfold V.writeV at hc ⊢; dsimp only at hc ⊢
  split at hc
  ·
   split at hc
   ·
    rename_i h2 hs
    simp only [Option.some.injEq, Prod.mk.injEq] at hc
    obtain ⟨h1, h2⟩ := hc
    subst h1 h2
    obtain ⟨h', e, m', k'⟩ := m.updateV hs
    rw [e]
    exact ⟨h', rfl, m', k'⟩
   ·
    cases hc
  ·
   cases hc
 case call c =>
  unfold V.writeV at hc ⊢; dsimp only at hc ⊢
  split at hc
  ·
   split at hc
   ·
    exact m.appendV hc
   ·
    cases hc
  ·
   split at hc
   ·
    exact m.copyV hc
   ·
    cases hc
  ·
   split at hc
   ·
    exact m.clearV hc
   ·
    cases hc
  ·
   split at hc
   ·
    exact m.deleteV hc
   ·
    cases hc
  ·
   cases hc
 all_goals (unfold V.writeV at hc; cases hc)
end Msk
def Framed (call : FuncId → List Value → Heap → Option (Value × Heap)) : Prop :=
 ∀ (S : Nat → Bool) (f h : Heap) (g : FuncId) (args : List Value) (v : Value) (f' : Heap), Msk S f h → call g args f = some (v, f') →
  ∃ h', call g args h = some (v, h') ∧ Msk S f' h' ∧ Kept S h h'
theorem read_none_of_write {E : Env} {fr : Fr} {h h' : Heap} {op : Op} {r : Value × Heap} (hc : writeV E fr h op = some r) : readV E fr h' op = none := by
 cases op
 case call c =>
  unfold V.writeV at hc; dsimp only at hc
  unfold V.readV; dsimp only
  split at hc
  ·
   rename_i e; rw [e]
  ·
   rename_i e; rw [e]
  ·
   rename_i e; rw [e]
  ·
   rename_i e; rw [e]
  ·
   cases hc
 all_goals first
  | rfl
  | (unfold V.writeV at hc; cases hc)
theorem read_none_of_callee {E : Env} {fr : Fr} {h' : Heap} {op : Op} {r : FuncId × List Value} (hc : calleeV E fr op = some r) : readV E fr h' op = none := by
 cases op
 case call c =>
  unfold V.calleeV at hc; dsimp only at hc
  unfold V.readV; dsimp only
  split at hc
  ·
   rename_i e; rw [e]
  ·
   rename_i e; rw [e]
  ·
   cases hc
 all_goals (unfold V.calleeV at hc; cases hc)
theorem write_none_of_callee {E : Env} {fr : Fr} {h' : Heap} {op : Op} {r : FuncId × List Value} (hc : calleeV E fr op = some r) : writeV E fr h' op = none := by
 cases op
 case call c =>
  unfold V.calleeV at hc; dsimp only at hc
  unfold V.writeV; dsimp only
  split at hc
  ·
   rename_i e; rw [e]
  ·
   rename_i e; rw [e]
  ·
   cases hc
 all_goals (unfold V.calleeV at hc; cases hc)
section
variable {S : Nat → Bool} {E : Env} {call : FuncId → List Value → Heap → Option (Value × Heap)}
theorem opV_msk (hF : Framed call) {f h : Heap} (m : Msk S f h) {fr : Fr} {op : Op} {v : Value} {f' : Heap} (hc : opV E call fr f op = some (v, f')) :
 ∃ h', opV E call fr h op = some (v, h') ∧ Msk S f' h' ∧ Kept S h h' := by
 unfold opV at hc
 split at hc
 ·
  rename_i v' e
  simp only [Option.some.injEq, Prod.mk.injEq] at hc
  obtain ⟨h1, h2⟩ := hc
  subst h1 h2
  exact ⟨h, by unfold opV; rw [m.readV e], m, Kept.refl _ _⟩
 ·
  split at hc
  ·
   rename_i r e
   simp only [Option.some.injEq] at hc
   subst hc
   obtain ⟨h', e', m', k'⟩ := m.writeV e
   exact ⟨h', by unfold opV; rw [read_none_of_write e, e'], m', k'⟩
  ·
   split at hc
   ·
    rename_i g args e
    obtain ⟨h', e', m', k'⟩ := hF S f h g args v f' m hc
    exact ⟨h', by unfold opV; rw [read_none_of_callee e, write_none_of_callee e, e]; exact e', m', k'⟩
   ·
    cases hc
theorem opV_none_of_promo {fr : Fr} {f : Heap} {op : Op} {r : FuncId × List Value} (hc : promoV E fr f op = some r) (h : Heap) : opV E call fr h op = none := by
 cases op
 case call c =>
  unfold promoV at hc; dsimp only at hc
  split at hc
  ·
   rename_i r0 name e
   split at hc
   ·
    rename_i t v hr
    split at hc
    ·
     cases hc
    ·
     rename_i hm
     unfold opV V.readV V.writeV V.calleeV
     simp only [e, hr, hm]
   ·
    cases hc
  ·
   cases hc
 all_goals (unfold promoV at hc; cases hc)
theorem promoV_msk {f h : Heap} (m : Msk S f h) {fr : Fr} {op : Op} {r : FuncId × List Value} (hc : promoV E fr f op = some r) : promoV E fr h op = some r := by
 cases op
 case call c =>
  unfold promoV at hc ⊢; dsimp only at hc ⊢
  split at hc
  ·
   rename_i r0 name e
   try rw [e]
   try dsimp only
   split at hc
   ·
    rename_i t v hr
    try rw [hr]
    try dsimp only
    split at hc
    ·
     cases hc
    ·
     rename_i hm
     try rw [hm]
     try dsimp only
     split at hc
     ·
      rename_i g st i ft hp
      try rw [hp]
      try dsimp only
      split at hc
      ·
       rename_i a ha
       try rw [ha]
       try dsimp only
       split at hc
       ·
        rename_i u hu
        rw [m.loadV hu]
        exact hc
       ·
        cases hc
      ·
       cases hc
     ·
      cases hc
   ·
    cases hc
  ·
   cases hc
 all_goals (unfold promoV at hc; cases hc)
theorem opV_none_of_maps {fr : Fr} {f : Heap} {op : Op} {r : Value × Heap} (hc : mapsV E fr f op = some r) (h : Heap) : opV E call fr h op = none ∧ promoV E fr h op = none := by
 cases op
 case mapUpdate t m k x =>
  unfold mapsV at hc; dsimp only at hc
  split at hc
  ·
   rename_i key elem r xs v hu hm hk hx
   refine ⟨?_, rfl⟩
   unfold opV V.readV V.writeV V.calleeV
   simp only [hm, hk, hx, V.updateV, hu, plainN, cond_false]
  ·
   cases hc
 case range => exact ⟨rfl, rfl⟩
 case next => exact ⟨rfl, rfl⟩
 case entry => exact ⟨rfl, rfl⟩
 all_goals (unfold mapsV at hc; cases hc)
theorem mapsV_msk {f h : Heap} (m : Msk S f h) {fr : Fr} {op : Op} {v : Value} {f' : Heap} (hc : mapsV E fr f op = some (v, f')) : ∃ h', mapsV E fr h op = some (v, h') ∧ Msk S f' h' ∧ Kept S h h' := by
 cases op
 case mapUpdate t x k y =>
  unfold mapsV at hc ⊢; dsimp only at hc ⊢
  split at hc
  ·
   rename_i key elem r xs u hu hm hk hx
   try simp only [hu, hm, hk, hx]
   split at hc
   ·
    rename_i es c0 ks hg hq
    rw [m.map hg, hq]
    dsimp only
    generalize findS ks xs.toList es 0 = q at hc ⊢
    rw [m.lim]
    cases e7 : keyS E.P key xs && Nat.ble f.lim r with
    | false => rw [e7] at hc; cases hc
    | true =>
     rw [e7] at hc
     simp only [cond_true] at hc ⊢
     cases q with
     | none => cases hc
     | some q =>
      cases q with
      | some q => cases hc
      | none =>
       dsimp only at hc ⊢
       cases hc
       exact ⟨_, rfl, m.set (m.out hg (by intro e; cases e)) _⟩
   ·
    cases hc
  ·
   cases hc
 case range t x =>
  unfold mapsV at hc ⊢; dsimp only at hc ⊢
  split at hc
  ·
   rename_i key elem r hu hx
   try simp only [hu, hx]
   split at hc
   ·
    rename_i es c0 hg
    rw [m.map hg]
    dsimp only
    cases e7 : Nat.beq c0 1 with
    | false => rw [e7] at hc; cases hc
    | true =>
     rw [e7] at hc
     simp only [cond_true] at hc ⊢
     cases hc
     exact ⟨_, by rw [m.n], m.alloc _⟩
   ·
    cases hc
  ·
   cases hc
 case next it b =>
  cases b with
  | true => unfold mapsV at hc; cases hc
  | false =>
   unfold mapsV at hc ⊢; dsimp only at hc ⊢
   split at hc
   ·
    rename_i a hx
    try simp only [hx]
    cases e6 : a.spot.isNone && Nat.beq a.off 0 with
    | false => rw [e6] at hc; cases hc
    | true =>
     rw [e6] at hc
     simp only [cond_true] at hc ⊢
     split at hc
     ·
      rename_i r s hi
      rw [m.iter hi]
      dsimp only
      split at hc
      ·
       rename_i e c0 hg
       rw [m.map hg]
       dsimp only
       cases e7 : Nat.beq c0 1 with
       | false => rw [e7] at hc; cases hc
       | true =>
        rw [e7] at hc
        simp only [cond_true] at hc ⊢
        cases s with
        | true =>
         simp only [cond_true] at hc ⊢
         cases hc
         exact ⟨h, rfl, m, Kept.refl _ _⟩
        | false =>
         simp only [cond_false] at hc ⊢
         rw [m.lim]
         cases e8 : Nat.ble f.lim a.block with
         | false => rw [e8] at hc; cases hc
         | true =>
          rw [e8] at hc
          simp only [cond_true] at hc ⊢
          cases hc
          exact ⟨_, rfl, m.set (m.out hi (by intro e; cases e)) _⟩
      ·
       cases hc
     ·
      cases hc
   ·
    cases hc
 case entry it =>
  unfold mapsV at hc ⊢; dsimp only at hc ⊢
  split at hc
  ·
   rename_i a hx
   try simp only [hx]
   cases e6 : a.spot.isNone && Nat.beq a.off 0 with
   | false => rw [e6] at hc; cases hc
   | true =>
    rw [e6] at hc
    simp only [cond_true] at hc ⊢
    split at hc
    ·
     rename_i r hi
     rw [m.iter hi]
     dsimp only
     split at hc
     ·
      rename_i e c0 hg
      rw [m.map hg]
      dsimp only
      cases e7 : Nat.beq c0 1 with
      | false => rw [e7] at hc; cases hc
      | true =>
       rw [e7] at hc
       simp only [cond_true] at hc ⊢
       cases hc
       exact ⟨h, rfl, m, Kept.refl _ _⟩
     ·
      cases hc
    ·
     cases hc
  ·
   cases hc
 all_goals (unfold mapsV at hc; cases hc)
theorem opP_msk (hF : Framed call) {f h : Heap} (m : Msk S f h) {fr : Fr} {op : Op} {v : Value} {f' : Heap} (hc : opP E call fr f op = some (v, f')) :
 ∃ h', opP E call fr h op = some (v, h') ∧ Msk S f' h' ∧ Kept S h h' := by
 unfold opP at hc
 split at hc
 ·
  rename_i r e
  cases hc
  obtain ⟨h', e', m', k'⟩ := opV_msk hF m e
  exact ⟨h', by unfold opP; rw [e'], m', k'⟩
 ·
  split at hc
  ·
   rename_i g args e
   obtain ⟨h', e', m', k'⟩ := hF S f h g args v f' m hc
   exact ⟨h', by unfold opP; rw [opV_none_of_promo e h, promoV_msk m e]; exact e', m', k'⟩
  ·
   obtain ⟨h', e', m', k'⟩ := mapsV_msk m hc
   exact ⟨h', by unfold opP; rw [(opV_none_of_maps hc h).1, (opV_none_of_maps (call := call) hc h).2]; exact e', m', k'⟩
theorem quietV_msk (hF : Framed call) {f h : Heap} (m : Msk S f h) {fr : Fr} {op : Op} {v : Value} (hc : quietV E call fr f op = some v) :
 quietV E call fr h op = some v := by
 unfold quietV at hc
 split at hc
 ·
  rename_i v' e
  unfold quietV; rw [m.readV e]; exact hc
 ·
  split at hc
  ·
   rename_i g args e
   split at hc
   ·
    rename_i v' f' e1
    obtain ⟨h', e', m', k'⟩ := hF S _ _ g args _ _ m.limN e1
    unfold quietV; rw [read_none_of_callee e, e]; dsimp only; rw [e']; exact hc
   ·
    cases hc
  ·
   cases hc
theorem runOps_msk (hF : Framed call) {nt : Nat} {ops : Array Oper} : ∀ (os : List Oper) {f h : Heap} (m : Msk S f h) {fr fr' : Fr} {f' : Heap} (hc : runOps E nt call ops os fr f = some (fr', f')),
 ∃ h', runOps E nt call ops os fr h = some (fr', h') ∧ Msk S f' h' ∧ Kept S h h' := by
 intro os
 induction os with
 | nil =>
  intro f h m fr fr' f' hc
  simp only [runOps, Option.some.injEq, Prod.mk.injEq] at hc
  obtain ⟨h1, h2⟩ := hc
  subst h1 h2
  exact ⟨h, rfl, m, Kept.refl _ _⟩
 | cons o r ih =>
  intro f h m fr fr' f' hc
  unfold runOps at hc ⊢
  cases e : wantedV ops fr o with
  | false =>
   rw [e] at hc
   simp only [cond_false] at hc ⊢
   split at hc
   ·
    exact ih m hc
   ·
    cases hc
  | true =>
   rw [e] at hc
   simp only [cond_true] at hc ⊢
   split at hc
   ·
    rename_i v f1 e1
    obtain ⟨h1, e1', m1, k1⟩ := opP_msk hF m e1
    rw [e1']
    dsimp only
    split at hc
    ·
     obtain ⟨h2, e2, m2, k2⟩ := ih m1 hc
     exact ⟨h2, e2, m2, k1.trans k2⟩
    ·
     cases hc
   ·
    cases hc
theorem runQuiet_msk (hF : Framed call) {nt : Nat} {ops : Array Oper} : ∀ (os : List Oper) {f h : Heap} (m : Msk S f h) {fr fr' : Fr} {f' : Heap} (hc : runQuiet E nt call ops os fr f = some (fr', f')),
 ∃ h', runQuiet E nt call ops os fr h = some (fr', h') ∧ Msk S f' h' ∧ Kept S h h' := by
 intro os
 induction os with
 | nil =>
  intro f h m fr fr' f' hc
  simp only [runQuiet, Option.some.injEq, Prod.mk.injEq] at hc
  obtain ⟨h1, h2⟩ := hc
  subst h1 h2
  exact ⟨h, rfl, m, Kept.refl _ _⟩
 | cons o r ih =>
  intro f h m fr fr' f' hc
  unfold runQuiet at hc ⊢
  cases e : wantedV ops fr o with
  | false =>
   rw [e] at hc
   simp only [cond_false] at hc ⊢
   split at hc
   ·
    exact ih m hc
   ·
    cases hc
  | true =>
   rw [e] at hc
   simp only [cond_true] at hc ⊢
   split at hc
   ·
    rename_i v e1
    rw [quietV_msk hF m e1]
    dsimp only
    split at hc
    ·
     exact ih m hc
    ·
     cases hc
   ·
    cases hc
theorem same_msk {f h f' h' : Heap} (m : Msk S f h) (m' : Msk S f' h') {fr : Fr} {op : Op} (c : same (readV E fr f op) (readV E fr f' op) = true) : same (readV E fr h op) (readV E fr h' op) = true := by
 cases e : readV E fr f op with
 | none => rw [e] at c; simp [same] at c
 | some v =>
  cases e' : readV E fr f' op with
  | none => rw [e, e'] at c; simp [same] at c
  | some v' => rw [m.readV e, m'.readV e']; rw [e, e'] at c; exact c
theorem chkR_msk {f h f' h' : Heap} (m : Msk S f h) (m' : Msk S f' h') {ops : Array Oper} {fr : Fr} : ∀ {ck : List Nat}, chkR E ops fr f f' ck = true → chkR E ops fr h h' ck = true
 | [], _ => rfl
 | r :: rs, c => by
  simp only [chkR, Bool.and_eq_true] at c ⊢
  refine ⟨?_, chkR_msk m m' c.2⟩
  have c1 := c.1
  cases ho : ops[r]? with
  | none => rw [ho] at c1; exact c1
  | some o =>
   rw [ho] at c1
   dsimp only at c1 ⊢
   cases w : wantedV ops fr o with
   | false => rfl
   | true =>
    rw [w] at c1
    simp only [Bool.not_true, Bool.false_or] at c1 ⊢
    exact same_msk m m' c1
theorem rsvV_msk {f h : Heap} (m : Msk S f h) {b : Nat} (hb : S b = false) {fr : Fr} {op : Op} {v : Value} {f' : Heap} (hc : rsvV E fr f b op = some (v, f')) :
 ∃ h', rsvV E fr h b op = some (v, h') ∧ Msk S f' h' ∧ Kept S h h' := by
 unfold rsvV at hc ⊢
 split at hc
 ·
  rename_i cs T g hn
  split at hc
  ·
   rename_i hg
   cases hc
   rw [m.get b hb, hg]
   exact ⟨_, rfl, m.set hb _⟩
  ·
   cases hc
 ·
  cases hc
def SlotsOut (S : Nat → Bool) (sl : List (Nat × Nat)) : Prop := ∀ i b, slotL sl i = some b → S b = false
theorem opS_msk (hF : Framed call) {sl : List (Nat × Nat)} {f h : Heap} (m : Msk S f h) {i : Nat} (hs : ∀ b, slotL sl i = some b → S b = false) {fr : Fr} {op : Op} {v : Value} {f' : Heap} (hc : opS E call sl i fr f op = some (v, f')) :
 ∃ h', opS E call sl i fr h op = some (v, h') ∧ Msk S f' h' ∧ Kept S h h' := by
 unfold opS at hc ⊢
 cases ha : allocK op with
 | false => rw [ha] at hc; exact opP_msk hF m hc
 | true =>
  rw [ha] at hc
  simp only [cond_true] at hc ⊢
  cases hb : slotL sl i with
  | none => rw [hb] at hc; cases hc
  | some b => rw [hb] at hc; exact rsvV_msk m (hs b hb) hc
theorem runSched_msk (hF : Framed call) {nt : Nat} {ops : Array Oper} {sl : List (Nat × Nat)} (hs : SlotsOut S sl) : ∀ (os : List (Nat × List Nat)) {f h : Heap} (m : Msk S f h) {fr fr' : Fr} {f' : Heap} (hc : runSched E nt call ops sl os fr f = some (fr', f')),
 ∃ h', runSched E nt call ops sl os fr h = some (fr', h') ∧ Msk S f' h' ∧ Kept S h h' := by
 intro os
 induction os with
 | nil =>
  intro f h m fr fr' f' hc
  simp only [runSched, Option.some.injEq, Prod.mk.injEq] at hc
  obtain ⟨h1, h2⟩ := hc
  subst h1 h2
  exact ⟨h, rfl, m, Kept.refl _ _⟩
 | cons o r ih =>
  intro f h m fr fr' f' hc
  obtain ⟨i, ck⟩ := o
  unfold runSched at hc ⊢
  cases ho : ops[i]? with
  | none => rw [ho] at hc; cases hc
  | some o =>
   rw [ho] at hc
   dsimp only at hc ⊢
   cases e : wantedV ops fr o with
   | false =>
    rw [e] at hc
    simp only [cond_false] at hc ⊢
    split at hc
    ·
     exact ih m hc
    ·
     cases hc
   | true =>
    rw [e] at hc
    simp only [cond_true] at hc ⊢
    split at hc
    ·
     rename_i v f1 e1
     obtain ⟨h1, e1', m1, k1⟩ := opS_msk hF m (hs i) e1
     rw [e1']
     dsimp only
     obtain ⟨c, hc⟩ := bif_some hc
     rw [chkR_msk m m1 c]
     simp only [cond_true]
     split at hc
     ·
      obtain ⟨h2, e2, m2, k2⟩ := ih m1 hc
      exact ⟨h2, e2, m2, k1.trans k2⟩
     ·
      cases hc
    ·
     cases hc
theorem slotsOf_ge : ∀ (l : List (Nat × Oper)) (n i b : Nat), slotL (slotsOf l n) i = some b → n ≤ b ∧ b < n + (slotsOf l n).length
 | [], n, i, b, h => by cases h
 | (j, o) :: r, n, i, b, h => by
  unfold slotsOf at h ⊢
  cases ha : allocK o.op with
  | true =>
   rw [ha] at h
   simp only [cond_true, slotL] at h
   simp only [cond_true, List.length_cons]
   cases e : Nat.beq j i with
   | true => rw [e] at h; simp only [cond_true, Option.some.injEq] at h; omega
   | false => rw [e] at h; have := slotsOf_ge r (n + 1) i b h; omega
  | false => rw [ha] at h; exact slotsOf_ge r n i b h
theorem resv_msk : ∀ (k : Nat) {f h : Heap}, Msk S f h → Msk S (resv k f) (resv k h) ∧ Kept S h (resv k h)
 | 0, f, h, m => ⟨m, Kept.refl _ _⟩
 | k + 1, f, h, m => by
  obtain ⟨m1, k1⟩ := m.alloc .dead
  obtain ⟨m2, k2⟩ := resv_msk k m1
  exact ⟨m2, k1.trans k2⟩
theorem runDrawn_msk (hF : Framed call) {nt : Nat} {ops : Array Oper} {f h : Heap} (m : Msk S f h) {fr fr' : Fr} {f' : Heap} (hc : runDrawn E nt call ops fr f = some (fr', f')) :
 ∃ h', runDrawn E nt call ops fr h = some (fr', h') ∧ Msk S f' h' ∧ Kept S h h' := by
 unfold runDrawn at hc ⊢
 rw [m.n]
 obtain ⟨m1, k1⟩ := resv_msk (slots ops f.n).length m
 have hs : SlotsOut S (slots ops f.n) := by
  intro i b hb
  have := (slotsOf_ge _ _ _ _ hb).1
  cases e : S b with
  | false => rfl
  | true => have := m.lt b e; omega
 obtain ⟨h', e, m2, k2⟩ := runSched_msk hF hs _ m1 hc
 exact ⟨h', e, m2, k1.trans k2⟩
def FramedC (F : Fr → Heap → Option (Ex × Fr × Heap)) : Prop :=
 ∀ (S : Nat → Bool) (f h : Heap) (fr : Fr) (x : Ex) (fr' : Fr) (f' : Heap), Msk S f h → F fr f = some (x, fr', f') → ∃ h', F fr h = some (x, fr', h') ∧ Msk S f' h' ∧ Kept S h h'
theorem iter_msk {F : Fr → Heap → Option (Ex × Fr × Heap)} (hF : FramedC F) : ∀ k, FramedC (iter F k) := by
 intro k
 induction k with
 | zero => intro S f h fr x fr' f' m hc; cases hc
 | succ k ih =>
  intro S f h fr x fr' f' m hc
  unfold iter at hc ⊢
  split at hc
  ·
   rename_i fr1 f1 e1
   obtain ⟨h1, e1', m1, k1⟩ := hF _ _ _ _ _ _ _ m e1
   rw [e1']
   obtain ⟨h2, e2, m2, k2⟩ := ih _ _ _ _ _ _ _ m1 hc
   exact ⟨h2, e2, m2, k1.trans k2⟩
  ·
   rename_i hne
   obtain ⟨h1, e1', m1, k1⟩ := hF _ _ _ _ _ _ _ m hc
   rw [e1']
   cases x with
   | normal => exact absurd hc (hne _ _)
   | exit i => exact ⟨h1, rfl, m1, k1⟩
   | ret => exact ⟨h1, rfl, m1, k1⟩
theorem evalC_msk (hF : Framed call) {nt lf : Nat} : ∀ c : Code, FramedC (evalC E nt call lf c) := by
 intro c
 induction c with
 | skip => intro S f h fr x fr' f' m hc; simp only [evalC, Option.some.injEq, Prod.mk.injEq] at hc ⊢; obtain ⟨h1, h2, h3⟩ := hc; subst h1 h2 h3; exact ⟨h, ⟨rfl, rfl, rfl⟩, m, Kept.refl _ _⟩
 | label l => intro S f h fr x fr' f' m hc; simp only [evalC, Option.some.injEq, Prod.mk.injEq] at hc ⊢; obtain ⟨h1, h2, h3⟩ := hc; subst h1 h2 h3; exact ⟨h, ⟨rfl, rfl, rfl⟩, m, Kept.refl _ _⟩
 | region id ops draw =>
  intro S f h fr x fr' f' m hc
  unfold evalC at hc ⊢
  cases draw with
  | true =>
   simp only [cond_true] at hc ⊢
   cases hq : quietR E.P ops with
   | false =>
    rw [hq] at hc
    simp only [cond_false] at hc ⊢
    split at hc
    ·
     rename_i fr1 f1 e1
     obtain ⟨h', e', m', k'⟩ := runDrawn_msk hF m e1
     rw [e']
     simp only [Option.some.injEq, Prod.mk.injEq] at hc ⊢; obtain ⟨h1, h2, h3⟩ := hc; subst h1 h2 h3
     exact ⟨h', ⟨rfl, rfl, rfl⟩, m', k'⟩
    ·
     cases hc
   | true =>
   rw [hq] at hc
   simp only [cond_true] at hc ⊢
   split at hc
   ·
    rename_i fr1 f1 e1
    obtain ⟨h', e', m', k'⟩ := runQuiet_msk hF _ m e1
    rw [e']
    simp only [Option.some.injEq, Prod.mk.injEq] at hc ⊢; obtain ⟨h1, h2, h3⟩ := hc; subst h1 h2 h3
    exact ⟨h', ⟨rfl, rfl, rfl⟩, m', k'⟩
   ·
    cases hc
  | false =>
   simp only [cond_false] at hc ⊢
   split at hc
   ·
    rename_i fr1 f1 e1
    obtain ⟨h', e', m', k'⟩ := runOps_msk hF _ m e1
    rw [e']
    simp only [Option.some.injEq, Prod.mk.injEq] at hc ⊢; obtain ⟨h1, h2, h3⟩ := hc; subst h1 h2 h3
    exact ⟨h', ⟨rfl, rfl, rfl⟩, m', k'⟩
   ·
    cases hc
 | seq a b iha ihb =>
  intro S f h fr x fr' f' m hc
  unfold evalC at hc ⊢
  split at hc
  ·
   rename_i fr1 f1 e1
   obtain ⟨h1, e1', m1, k1⟩ := iha _ _ _ _ _ _ _ m e1
   rw [e1']
   obtain ⟨h2, e2, m2, k2⟩ := ihb _ _ _ _ _ _ _ m1 hc
   exact ⟨h2, e2, m2, k1.trans k2⟩
  ·
   rename_i hne
   obtain ⟨h1, e1', m1, k1⟩ := iha _ _ _ _ _ _ _ m hc
   rw [e1']
   cases x with
   | normal => exact absurd hc (hne _ _)
   | exit i => exact ⟨h1, rfl, m1, k1⟩
   | ret => exact ⟨h1, rfl, m1, k1⟩
 | cond c a b iha ihb =>
  intro S f h fr x fr' f' m hc
  unfold evalC at hc ⊢
  split at hc
  ·
   exact iha _ _ _ _ _ _ _ m hc
  ·
   exact ihb _ _ _ _ _ _ _ m hc
  ·
   cases hc
 | block id body ih =>
  intro S f h fr x fr' f' m hc
  unfold evalC at hc ⊢
  split at hc
  ·
   rename_i i fr1 f1 e1
   obtain ⟨h1, e1', m1, k1⟩ := ih _ _ _ _ _ _ _ m e1
   rw [e1']
   dsimp only
   split at hc
   ·
    rename_i hi
    rw [if_pos hi]
    simp only [Option.some.injEq, Prod.mk.injEq] at hc ⊢; obtain ⟨h1, h2, h3⟩ := hc; subst h1 h2 h3
    exact ⟨_, ⟨rfl, rfl, rfl⟩, m1, k1⟩
   ·
    rename_i hi
    rw [if_neg hi]
    simp only [Option.some.injEq, Prod.mk.injEq] at hc ⊢; obtain ⟨h1, h2, h3⟩ := hc; subst h1 h2 h3
    exact ⟨_, ⟨rfl, rfl, rfl⟩, m1, k1⟩
  ·
   rename_i hne
   obtain ⟨h1, e1', m1, k1⟩ := ih _ _ _ _ _ _ _ m hc
   rw [e1']
   cases x with
   | exit i => exact absurd hc (hne _ _ _)
   | normal => exact ⟨h1, rfl, m1, k1⟩
   | ret => exact ⟨h1, rfl, m1, k1⟩
 | loop body ih =>
  intro S f h fr x fr' f' m hc
  unfold evalC at hc ⊢
  exact iter_msk ih lf _ _ _ _ _ _ _ m hc
 | exit id => intro S f h fr x fr' f' m hc; simp only [evalC, Option.some.injEq, Prod.mk.injEq] at hc ⊢; obtain ⟨h1, h2, h3⟩ := hc; subst h1 h2 h3; exact ⟨h, ⟨rfl, rfl, rfl⟩, m, Kept.refl _ _⟩
 | scope body ih =>
  intro S f h fr x fr' f' m hc
  unfold evalC at hc ⊢
  exact ih _ _ _ _ _ _ _ m hc
 | ret => intro S f h fr x fr' f' m hc; simp only [evalC, Option.some.injEq, Prod.mk.injEq] at hc ⊢; obtain ⟨h1, h2, h3⟩ := hc; subst h1 h2 h3; exact ⟨h, ⟨rfl, rfl, rfl⟩, m, Kept.refl _ _⟩
 | _ => intro S f h fr x fr' f' m hc; simp only [evalC] at hc; cases hc
theorem resultsV_msk {f h : Heap} (m : Msk S f h) {fr : Fr} : ∀ (rs : List ResultVar) {l : List Value}, resultsV E fr f rs = some l → resultsV E fr h rs = some l := by
 intro rs
 induction rs with
 | nil => intro l hc; exact hc
 | cons r rs ih =>
  intro l hc
  unfold resultsV at hc ⊢
  split at hc
  ·
   rename_i v e
   have : resultV E fr h r = some v := by
    unfold resultV at e ⊢
    split at e
    ·
     exact e
    ·
     split at e
     ·
      exact m.loadV e
     ·
      cases e
   rw [this]
   dsimp only
   split at hc
   ·
    rename_i l' e'
    rw [ih e']; exact hc
   ·
    cases hc
  ·
   cases hc
end
def FramedE (E : Env) : Prop := ∀ g p, E.prim g = some p → Framed (fun _ => p)
theorem run_msk {E : Env} (hE : FramedE E) : ∀ n, Framed (run E n) := by
 intro n
 induction n with
 | zero => intro S f h g args v f' m hc; cases hc
 | succ n ih =>
  intro S f h g args v f' m hc
  unfold run at hc ⊢
  split at hc
  ·
   rename_i p hp
   exact hE g p hp S f h g args v f' m hc
  ·
   split at hc
   ·
    cases hc
   ·
    rename_i fn hfn
    split at hc
    ·
     cases hc
    ·
     rename_i c hb
     cases e0 : Nat.ble args.length fn.ntmps with
     | false => rw [e0] at hc; cases hc
     | true =>
      rw [e0] at hc
      simp only [cond_true] at hc ⊢
      split at hc
      ·
       cases hc
      ·
       rename_i x fr h1 hne e1
       obtain ⟨h2, e2, m2, k2⟩ := evalC_msk ih c _ _ _ _ _ _ _ m e1
       rw [e2]
       split at hc
       ·
        rename_i l el
        simp only [Option.some.injEq, Prod.mk.injEq] at hc
        obtain ⟨q1, q2⟩ := hc
        subst q1 q2
        have er := resultsV_msk m2 _ el
        refine ⟨h2, ?_, m2, k2⟩
        cases x with
        | exit i => exact (hne _ rfl).elim
        | normal => dsimp only; rw [er]
        | ret => dsimp only; rw [er]
       ·
        cases hc
      ·
       cases hc
end Go.Proofs.YtokfjifeofpkkaaGreat.V
namespace Go.Proofs.YtokfjifeofpkkaaGreat.V
open Go
set_option linter.unusedVariables false
set_option linter.unusedSimpArgs false
def Agr (l : List Tmp) (fr fr2 : Fr) : Prop := ∀ t ∈ l, fr.at t = fr2.at t
def AgrO (l : List Operand) (fr fr2 : Fr) : Prop := ∀ x ∈ l, ev fr x = ev fr2 x
theorem AgrO.cons {x : Operand} {l : List Operand} {fr fr2 : Fr} (h : AgrO (x :: l) fr fr2) : ev fr x = ev fr2 x ∧ AgrO l fr fr2 :=
 ⟨h x List.mem_cons_self, fun y hy => h y (List.mem_cons_of_mem _ hy)⟩
theorem evs_congr {fr fr2 : Fr} : ∀ {l : List Operand}, AgrO l fr fr2 → evs fr l = evs fr2 l
 | [], _ => rfl
 | x :: r, h => by simp only [evs, h.cons.1, evs_congr h.cons.2]
theorem evParts_congr {fr fr2 : Fr} : ∀ {l : List (Nat × Operand)}, AgrO (l.map (·.2)) fr fr2 → evParts fr l = evParts fr2 l
 | [], _ => rfl
 | (i, x) :: r, h => by
  have h : AgrO (x :: r.map (·.2)) fr fr2 := h
  simp only [evParts, h.cons.1, evParts_congr h.cons.2]
theorem evOpt_congr {fr fr2 : Fr} {x : Option Operand} (h : ∀ y, x = some y → ev fr y = ev fr2 y) : evOpt fr x = evOpt fr2 x := by
 cases x with
 | none => rfl
 | some y => simp only [evOpt, h y rfl]
theorem ev_agr {fr fr2 : Fr} {x : Operand} (h : ∀ t, x = .tmp t → fr.at t = fr2.at t) : ev fr x = ev fr2 x := by
 cases x <;> simp only [ev]
 rw [h _ rfl]
theorem agrO_of {ops : Array Oper} {o : Oper} {fr fr2 : Fr} (h : Agr (o.looksAt ops) fr fr2) : AgrO o.op.operands.toList fr fr2 :=
 fun x hx => ev_agr fun t ht => h t (List.mem_append_left _ (List.mem_filterMap.2 ⟨x, hx, by rw [ht]⟩))
theorem wantedV_congr {ops : Array Oper} {o : Oper} {fr fr2 : Fr} (h : Agr (o.looksAt ops) fr fr2) : wantedV ops fr o = wantedV ops fr2 o := by
 unfold wantedV
 cases hg : o.guard with
 | none => rfl
 | some gw =>
  obtain ⟨g, want⟩ := gw
  dsimp only
  cases ho : ops[g]? with
  | none => rfl
  | some oj =>
   dsimp only
   cases hd : oj.dst with
   | none => rfl
   | some d =>
    dsimp only
    rw [h d (by simp [Oper.looksAt, hg, ho, hd])]
theorem readV_congr {E : Env} {fr fr2 : Fr} {h : Heap} {op : Op} (a : AgrO op.operands.toList fr fr2) : readV E fr h op = readV E fr2 h op := by
 cases op <;> simp only [Op.operands] at a <;> simp only [readV]
 case build t ps => rw [evParts_congr (l := ps.toList) (by simpa using a)]
 case makeFunc fn first cap =>
  rw [evs_congr (l := first.toList) fun x hx => a x (by simp at hx ⊢; exact .inl hx), evs_congr (l := cap.toList) fun x hx => a x (by simp at hx ⊢; exact .inr hx)]
 case slice t x lo hi mx =>
  rw [a x (by simp), evOpt_congr (x := lo) fun y hy => a y (by simp [hy]), evOpt_congr (x := hi) fun y hy => a y (by simp [hy]), evOpt_congr (x := mx) fun y hy => a y (by simp [hy])]
 case call c => rw [evs_congr (l := c.args.toList) fun x hx => a x (by simp [Call.operands] at hx ⊢; cases c.callee <;> simp [hx])]
 all_goals first
  | rfl
  | (have a1 := a _ (by simp; done); rw [a1]; done)
  | (obtain ⟨a1, a⟩ := a.cons; rw [a1]; done)
  | (obtain ⟨a1, a⟩ := a.cons; obtain ⟨a2, a⟩ := a.cons; rw [a1, a2]; done)
  | (obtain ⟨a1, a⟩ := a.cons; obtain ⟨a2, a⟩ := a.cons; obtain ⟨a3, a⟩ := a.cons; rw [a1, a2, a3]; done)
theorem writeV_congr {E : Env} {fr fr2 : Fr} {h : Heap} {op : Op} (a : AgrO op.operands.toList fr fr2) : writeV E fr h op = writeV E fr2 h op := by
 cases op <;> simp only [Op.operands] at a <;> simp only [writeV]
 case buildSlice t n ps => rw [evParts_congr (l := ps.toList) (by simpa using a)]
 case call c => rw [evs_congr (l := c.args.toList) fun x hx => a x (by simp [Call.operands] at hx ⊢; cases c.callee <;> simp [hx])]
 all_goals first
  | rfl
  | (obtain ⟨a1, a⟩ := a.cons; rw [a1]; done)
  | (obtain ⟨a1, a⟩ := a.cons; obtain ⟨a2, a⟩ := a.cons; rw [a1, a2]; done)
  | (obtain ⟨a1, a⟩ := a.cons; obtain ⟨a2, a⟩ := a.cons; obtain ⟨a3, a⟩ := a.cons; rw [a1, a2, a3]; done)
theorem calleeV_congr {E : Env} {fr fr2 : Fr} {op : Op} (a : AgrO op.operands.toList fr fr2) : calleeV E fr op = calleeV E fr2 op := by
 cases op <;> simp only [Op.operands] at a <;> simp only [calleeV]
 case call c =>
  rw [evs_congr (l := c.args.toList) fun x hx => a x (by simp [Call.operands] at hx ⊢; cases c.callee <;> simp [hx])]
  cases hc : c.callee with
  | value f => simp only [a f (by simp [Call.operands, hc])]
  | invoke r m => simp only [a r (by simp [Call.operands, hc])]
  | builtin b => rfl
theorem opV_congr {E : Env} {call : FuncId → List Value → Heap → Option (Value × Heap)} {fr fr2 : Fr} {h : Heap} {op : Op} (a : AgrO op.operands.toList fr fr2) : opV E call fr h op = opV E call fr2 h op := by
 simp only [opV, readV_congr a, writeV_congr a, calleeV_congr a]
theorem promoV_congr {E : Env} {fr fr2 : Fr} {h : Heap} {op : Op} (a : AgrO op.operands.toList fr fr2) : promoV E fr h op = promoV E fr2 h op := by
 cases op <;> simp only [promoV]
 case call c =>
  cases hc : c.callee <;> simp only
  rename_i r name
  simp only [Op.operands] at a
  have e1 : ev fr r = ev fr2 r := a r (by simp [Call.operands, hc])
  have e2 : evs fr c.args.toList = evs fr2 c.args.toList := evs_congr (fun x hx => a x (by simp [Call.operands, hc] at hx ⊢; simp [hx]))
  rw [e1, e2]
theorem mapsV_congr {E : Env} {fr fr2 : Fr} {h : Heap} {op : Op} (a : AgrO op.operands.toList fr fr2) : mapsV E fr h op = mapsV E fr2 h op := by
 cases op <;> simp only [Op.operands] at a <;> simp only [mapsV]
 case mapUpdate t m k x => rw [a m (by simp), a k (by simp), a x (by simp)]
 case range t x => rw [a x (by simp)]
 case next it b => cases b <;> simp only [mapsV]; rw [(a it (by simp))]
 case entry it => rw [(a it (by simp))]
theorem opP_congr {E : Env} {call : FuncId → List Value → Heap → Option (Value × Heap)} {fr fr2 : Fr} {h : Heap} {op : Op} (a : AgrO op.operands.toList fr fr2) : opP E call fr h op = opP E call fr2 h op := by
 simp only [opP, opV_congr a, promoV_congr a, mapsV_congr a]
theorem readK_opV {E : Env} {call : FuncId → List Value → Heap → Option (Value × Heap)} {fr : Fr} {h : Heap} {op : Op} (k : readK op = true) {r : Value × Heap} (e : opV E call fr h op = some r) : readV E fr h op = some r.1 ∧ r.2 = h := by
 unfold opV at e
 split at e
 ·
  rename_i v hv; cases e; exact ⟨hv, rfl⟩
 ·
  exfalso
  cases op <;> simp only [readK] at k <;> first | (cases k; done) | skip
  case call c =>
   split at k <;> rename_i hc <;> first | (cases k; done) | simp [writeV, calleeV, hc] at e
  all_goals simp [writeV, calleeV] at e
theorem op_readKV {E : Env} {call : FuncId → List Value → Heap → Option (Value × Heap)} {fr : Fr} {h : Heap} {op : Op} {v : Value} (e : readV E fr h op = some v) : opV E call fr h op = some (v, h) := by
 unfold opV; rw [e]
theorem readK_op {E : Env} {call : FuncId → List Value → Heap → Option (Value × Heap)} {fr : Fr} {h : Heap} {op : Op} (k : readK op = true) {r : Value × Heap} (e : opP E call fr h op = some r) : readV E fr h op = some r.1 ∧ r.2 = h := by
 unfold opP at e
 split at e
 ·
  rename_i r' e1; cases e; exact readK_opV k e1
 ·
  exfalso
  cases op <;> simp only [readK] at k <;> first | (cases k; done) | skip
  case call c =>
   split at k <;> rename_i hc <;> first | (cases k; done) | simp [promoV, mapsV, hc] at e
  all_goals simp [promoV, mapsV] at e
theorem op_readK {E : Env} {call : FuncId → List Value → Heap → Option (Value × Heap)} {fr : Fr} {h : Heap} {op : Op} {v : Value} (e : readV E fr h op = some v) : opP E call fr h op = some (v, h) := by
 unfold opP; rw [op_readKV e]
theorem readV_noheap {E : Env} {fr : Fr} {h h2 : Heap} {op : Op} (k : readK op = true) (n : heapK op = false) : readV E fr h op = readV E fr h2 op := by
 cases op <;> simp only [readK, heapK] at k n <;> first | (cases k; done) | (cases n; done) | skip
 case call c => split at k <;> rename_i hc <;> first | (cases k; done) | (simp [hc] at n; done) | simp [readV, hc]
 all_goals rfl
theorem all_zip {f : Value → Value → Bool} (hf : ∀ a b, f a b = true → a = b) : ∀ (l l' : List Value), l.length = l'.length → (List.zipWith f l l').all id = true → l = l'
 | [], [], _, _ => rfl
 | [], _ :: _, h, _ => by cases h
 | _ :: _, [], h, _ => by cases h
 | a :: l, b :: l', h, k => by
  simp only [List.zipWith_cons_cons, List.all_cons, id, Bool.and_eq_true] at k
  rw [hf a b k.1, all_zip hf l l' (by simpa using h) k.2]
theorem veqN_eq : ∀ (n : Nat) (a b : Value), veqN n a b = true → a = b := by
 intro n
 induction n with
 | zero =>
  intro a b h
  cases a <;> cases b <;> simp only [veqN] at h <;> first | (cases h; done) | skip
  case string s s' => rw [bytes_beq _ _ h]
  all_goals (try simp at h)
  all_goals first | rfl | (simp [h]; done) | (obtain ⟨h1, h2⟩ := h; simp [h1, h2]; done)
 | succ n ih =>
  intro a b h
  have arr : ∀ x y : Array Value, (Nat.beq x.size y.size && (List.zipWith (veqN n) x.toList y.toList).all id) = true → x = y := by
   intro x y hxy
   simp only [Bool.and_eq_true] at hxy
   exact Array.toList_inj.1 (all_zip ih _ _ (by simpa using Nat.eq_of_beq_eq_true hxy.1) hxy.2)
  cases a <;> cases b <;> simp only [veqN] at h <;> first | (cases h; done) | skip
  case func f x c f' x' c' =>
   simp only [Bool.and_eq_true, decide_eq_true_eq] at h
   obtain ⟨⟨h1, h2⟩, h3⟩ := h
   rw [h1, arr x x' (by simpa using h2), arr c c' (by simpa using h3)]
  case iface t v t' v' =>
   simp only [Bool.and_eq_true] at h
   rw [Nat.eq_of_beq_eq_true h.1, ih _ _ h.2]
  case agg x y => rw [arr x y h]
  case tuple x y => rw [arr x y h]
  case string s s' => rw [bytes_beq _ _ h]
  all_goals (try simp at h)
  all_goals first | rfl | (simp [h]; done) | (obtain ⟨h1, h2⟩ := h; simp [h1, h2]; done)
theorem same_some {a b : Option Value} (h : same a b = true) {v : Value} (ha : a = some v) : b = some v := by
 subst ha
 cases b with
 | none => simp [same] at h
 | some w => simp only [same] at h; rw [veqN_eq _ _ _ h]
end Go.Proofs.YtokfjifeofpkkaaGreat.V
namespace Go.Proofs.YtokfjifeofpkkaaGreat.V
open Go
set_option linter.unusedVariables false
set_option linter.unusedSimpArgs false
theorem put_at {nt : Nat} {fr fr' : Fr} {d : Option Tmp} {v : Value} (h : fr.put nt d v = some fr') (t : Nat) : fr'.at t = if d = some t then v else fr.at t := by
 cases d with
 | none => simp only [Fr.put] at h; cases h; rfl
 | some d =>
  simp only [Fr.put] at h
  obtain ⟨_, h⟩ := bif_some h
  cases h
  rw [Fr.at_set]
  by_cases e : d = t
  ·
   subst e; simp
  ·
   rw [if_neg e, if_neg (by intro q; cases q; exact e rfl)]
theorem put_any {nt : Nat} {fr fr' : Fr} {d : Option Tmp} {v : Value} (h : fr.put nt d v = some fr') (fr2 : Fr) (u : Value) : ∃ fr3, fr2.put nt d u = some fr3 := by
 cases d with
 | none => exact ⟨_, rfl⟩
 | some d =>
  simp only [Fr.put] at h ⊢
  obtain ⟨b, h⟩ := bif_some h
  rw [b]; exact ⟨_, rfl⟩
def Eqv (fr fr2 : Fr) : Prop := ∀ t, fr.at t = fr2.at t
theorem Eqv.refl (fr : Fr) : Eqv fr fr := fun _ => rfl
theorem Eqv.symm {a b : Fr} (h : Eqv a b) : Eqv b a := fun t => (h t).symm
theorem Eqv.trans {a b c : Fr} (h : Eqv a b) (k : Eqv b c) : Eqv a c := fun t => (h t).trans (k t)
theorem Eqv.agr {a b : Fr} (h : Eqv a b) (l : List Tmp) : Agr l a b := fun t _ => h t
theorem Agr.symm {l : List Tmp} {a b : Fr} (h : Agr l a b) : Agr l b a := fun t ht => (h t ht).symm
theorem Agr.trans {l : List Tmp} {a b c : Fr} (h : Agr l a b) (k : Agr l b c) : Agr l a c := fun t ht => (h t ht).trans (k t ht)
theorem agr_put {nt : Nat} {fr fr' : Fr} {d : Option Tmp} {v : Value} (h : fr.put nt d v = some fr') {l : List Tmp} (n : ∀ t, d = some t → t ∉ l) : Agr l fr' fr := by
 intro t ht
 rw [put_at h, if_neg (fun e => n t e ht)]
abbrev Hq (f h : Heap) : Prop := Msk (fun _ => false) f h
theorem Hq.refl (h : Heap) : Hq h h := ⟨rfl, rfl, rfl, (fun _ e => by cases e), fun _ _ => rfl, (fun _ e => by cases e)⟩
theorem Hq.symm {f h : Heap} (m : Hq f h) : Hq h f := ⟨m.base.symm, m.lim.symm, m.n.symm, (fun _ e => by cases e), fun b _ => (m.get b rfl).symm, (fun _ e => by cases e)⟩
theorem Hq.trans {a b c : Heap} (m : Hq a b) (k : Hq b c) : Hq a c := ⟨k.base.trans m.base, k.lim.trans m.lim, k.n.trans m.n, (fun _ e => by cases e), fun x _ => (k.get x rfl).trans (m.get x rfl), (fun _ e => by cases e)⟩
theorem allocK_readK {op : Op} (k : readK op = true) : allocK op = false := by
 cases op <;> simp only [readK] at k <;> first | (cases k; done) | rfl
theorem newB_congr {E : Env} {fr fr2 : Fr} {op : Op} (a : AgrO op.operands.toList fr fr2) : newB E fr op = newB E fr2 op := by
 cases op <;> simp only [Op.operands] at a <;> simp only [newB]
 case buildSlice t n ps => rw [evParts_congr (l := ps.toList) (by simpa using a)]
 case box t x => obtain ⟨a1, a⟩ := a.cons; rw [a1]
theorem opS_opV {E : Env} {call : FuncId → List Value → Heap → Option (Value × Heap)} {sl : List (Nat × Nat)} {i : Nat} {fr : Fr} {h : Heap} {op : Op} (a : allocK op = false) : opS E call sl i fr h op = opP E call fr h op := by
 unfold opS; rw [a]; rfl
theorem opS_congr {E : Env} {call : FuncId → List Value → Heap → Option (Value × Heap)} {sl : List (Nat × Nat)} {i : Nat} {fr fr2 : Fr} {h : Heap} {op : Op} (a : AgrO op.operands.toList fr fr2) : opS E call sl i fr h op = opS E call sl i fr2 h op := by
 unfold opS rsvV; rw [opP_congr a, newB_congr a]
section
variable (E : Env) (nt : Nat) (call : FuncId → List Value → Heap → Option (Value × Heap)) (ops : Array Oper) (sl : List (Nat × Nat))
def Val (i : Nat) (o : Oper) (fr : Fr) (h : Heap) (v : Value) (h' : Heap) : Prop :=
 (wantedV ops fr o = true ∧ opS E call sl i fr h o.op = some (v, h')) ∨ (wantedV ops fr o = false ∧ v = undef ∧ h' = h)
def Stp (i : Nat) (fr : Fr) (h : Heap) (fr' : Fr) (h' : Heap) : Prop :=
 ∃ o v, ops[i]? = some o ∧ Val E call ops sl i o fr h v h' ∧ fr.put nt o.dst v = some fr'
def Chk (fr : Fr) (h h' : Heap) (ck : List Nat) : Prop :=
 ∀ r ∈ ck, ∃ o, ops[r]? = some o ∧ (wantedV ops fr o = true → ∃ v, readV E fr h o.op = some v ∧ readV E fr h' o.op = some v)
def RunS : List (Nat × List Nat) → Fr → Heap → Fr → Heap → Prop
 | [], fr, h, fr', h' => Eqv fr fr' ∧ Hq h h'
 | x :: L, fr, h, fr', h' => ∃ o v h1 fr1, ops[x.1]? = some o ∧ Val E call ops sl x.1 o fr h v h1 ∧ (wantedV ops fr o = true → Chk E ops fr h h1 x.2) ∧ fr.put nt o.dst v = some fr1 ∧ RunS L fr1 h1 fr' h'
variable {E nt call ops sl}
theorem Val.congr {i : Nat} {o : Oper} {fr fr2 : Fr} {h h' : Heap} {v : Value} (c : Val E call ops sl i o fr h v h') (a : Agr (o.looksAt ops) fr fr2) : Val E call ops sl i o fr2 h v h' := by
 rcases c with ⟨c1, c2⟩ | ⟨c1, c2⟩
 ·
  exact .inl ⟨by rw [← wantedV_congr a]; exact c1, by rw [← opS_congr (agrO_of a)]; exact c2⟩
 ·
  exact .inr ⟨by rw [← wantedV_congr a]; exact c1, c2⟩
theorem Val.heap {i : Nat} {o : Oper} {fr : Fr} {h h' : Heap} {v : Value} (k : readK o.op = true) (c : Val E call ops sl i o fr h v h') : h' = h := by
 rcases c with ⟨_, c2⟩ | ⟨_, _, c2⟩
 ·
  rw [opS_opV (allocK_readK k)] at c2; exact (readK_op k c2).2
 ·
  exact c2
theorem Val.noheap {i : Nat} {o : Oper} {fr : Fr} {h h' : Heap} {v : Value} (k : readK o.op = true) (n : heapK o.op = false) (c : Val E call ops sl i o fr h v h') (h2 : Heap) : Val E call ops sl i o fr h2 v h2 := by
 rcases c with ⟨c1, c2⟩ | ⟨c1, c2, _⟩
 ·
  rw [opS_opV (allocK_readK k)] at c2
  have := (readK_op k c2).1
  rw [readV_noheap (h2 := h2) k n] at this
  exact .inl ⟨c1, by rw [opS_opV (allocK_readK k)]; exact op_readK this⟩
 ·
  exact .inr ⟨c1, c2, rfl⟩
theorem Chk.congr {fr fr2 : Fr} {h h' : Heap} {ck : List Nat} (c : Chk E ops fr h h' ck) (a : ∀ r ∈ ck, ∀ o, ops[r]? = some o → Agr (o.looksAt ops) fr fr2) : Chk E ops fr2 h h' ck := by
 intro r hr
 obtain ⟨o, ho, hc⟩ := c r hr
 have ag := a r hr o ho
 refine ⟨o, ho, fun w => ?_⟩
 rw [← wantedV_congr ag] at w
 obtain ⟨v, h1, h2⟩ := hc w
 exact ⟨v, by rw [← readV_congr (agrO_of ag)]; exact h1, by rw [← readV_congr (agrO_of ag)]; exact h2⟩
theorem Chk.msk {S : Nat → Bool} {fr : Fr} {h h' h2 h2' : Heap} {ck : List Nat} (c : Chk E ops fr h h' ck) (m : Msk S h h2) (m' : Msk S h' h2') : Chk E ops fr h2 h2' ck := by
 intro r hr
 obtain ⟨o, ho, hc⟩ := c r hr
 refine ⟨o, ho, fun w => ?_⟩
 obtain ⟨v, h1, h2⟩ := hc w
 exact ⟨v, m.readV h1, m'.readV h2⟩
theorem Val.msk (hF : Framed call) {S : Nat → Bool} {i : Nat} (hs : ∀ b, slotL sl i = some b → S b = false) {o : Oper} {fr : Fr} {h h' h2 : Heap} {v : Value} (c : Val E call ops sl i o fr h v h') (m : Msk S h h2) :
 ∃ h2', Val E call ops sl i o fr h2 v h2' ∧ Msk S h' h2' ∧ Kept S h2 h2' := by
 rcases c with ⟨c1, c2⟩ | ⟨c1, c2, c3⟩
 ·
  obtain ⟨h2', e, m', k⟩ := opS_msk hF m hs c2
  exact ⟨h2', .inl ⟨c1, e⟩, m', k⟩
 ·
  subst c3; exact ⟨h2, .inr ⟨c1, c2, rfl⟩, m, Kept.refl _ _⟩
theorem RunS.congr (hF : Framed call) : ∀ {L : List (Nat × List Nat)} {fr fr2 : Fr} {h h2 : Heap} {fr' : Fr} {h' : Heap}, Eqv fr fr2 → Hq h h2 → RunS E nt call ops sl L fr h fr' h' → RunS E nt call ops sl L fr2 h2 fr' h'
 | [], fr, fr2, h, h2, fr', h', e, m, r => ⟨e.symm.trans r.1, m.symm.trans r.2⟩
 | x :: L, fr, fr2, h, h2, fr', h', e, m, ⟨o, v, h1, fr1, r1, r2, r3, r4, r5⟩ => by
  obtain ⟨fr3, p⟩ := put_any r4 fr2 v
  obtain ⟨h2', q1, q2, _⟩ := (r2.congr (e.agr _)).msk hF (fun _ _ => rfl) m
  refine ⟨o, v, h2', fr3, r1, q1, fun w => ?_, p, RunS.congr hF (fun t => ?_) q2 r5⟩
  ·
   rw [← wantedV_congr (e.agr _)] at w
   exact ((r3 w).congr fun _ _ _ _ => e.agr _).msk m q2
  ·
   rw [put_at r4, put_at p, e t]
theorem chkR_spec {fr : Fr} {h h' : Heap} : ∀ {ck : List Nat}, chkR E ops fr h h' ck = true → Chk E ops fr h h' ck
 | [], _ => fun r hr => by cases hr
 | r :: rs, c => by
  simp only [chkR, Bool.and_eq_true] at c
  intro q hq
  rcases List.mem_cons.1 hq with e | hq
  ·
   subst e
   split at c
   ·
    rename_i o ho
    refine ⟨o, ho, fun w => ?_⟩
    have c1 := c.1
    rw [w] at c1
    simp only [Bool.not_true, Bool.false_or] at c1
    cases e : readV E fr h o.op with
    | none => rw [e] at c1; simp [same] at c1
    | some v => rw [e] at c1; exact ⟨v, rfl, same_some c1 rfl⟩
   ·
    simp at c
  ·
   exact chkR_spec c.2 q hq
theorem runSched_run : ∀ {L : List (Nat × List Nat)} {fr : Fr} {h : Heap} {fr' : Fr} {h' : Heap}, runSched E nt call ops sl L fr h = some (fr', h') → RunS E nt call ops sl L fr h fr' h'
 | [], fr, h, fr', h', e => by simp only [runSched] at e; cases e; exact ⟨Eqv.refl _, Hq.refl _⟩
 | (i, ck) :: L, fr, h, fr', h', e => by
  unfold runSched at e
  split at e
  ·
   cases e
  ·
   rename_i o ho
   cases w : wantedV ops fr o with
   | true =>
    rw [w] at e
    simp only [cond_true] at e
    split at e
    ·
     rename_i v h1 hv
     obtain ⟨c, e⟩ := bif_some e
     split at e
     ·
      rename_i fr1 hp
      exact ⟨o, v, h1, fr1, ho, .inl ⟨w, hv⟩, fun _ => chkR_spec c, hp, runSched_run e⟩
     ·
      cases e
    ·
     cases e
   | false =>
    rw [w] at e
    simp only [cond_false] at e
    split at e
    ·
     rename_i fr1 hp
     exact ⟨o, undef, h, fr1, ho, .inr ⟨w, rfl, rfl⟩, (fun q => by rw [w] at q; cases q), hp, runSched_run e⟩
    ·
     cases e
theorem frontR (hF : Framed call) {i : Nat} {ck : List Nat} {oi : Oper} (hi : ops[i]? = some oi) (ki : readK oi.op = true) {L2 : List (Nat × List Nat)} {fr' : Fr} {h' : Heap} :
 ∀ (L1 : List (Nat × List Nat)) {fr : Fr} {h : Heap},
  (∀ x ∈ L1, ∀ ox, ops[x.1]? = some ox → ox.apart ops oi = true ∧ (readK ox.op = true → x.2 = []) ∧ (readK ox.op = false → heapK oi.op = false) ∧
   ∀ r ∈ x.2, ∀ o, ops[r]? = some o → ∀ d, oi.dst = some d → d ∉ o.looksAt ops) →
  RunS E nt call ops sl (L1 ++ (i, ck) :: L2) fr h fr' h' → ∃ fr1 h1, Stp E nt call ops sl i fr h fr1 h1 ∧ RunS E nt call ops sl (L1 ++ L2) fr1 h1 fr' h'
 | [], fr, h, _, ⟨o, v, h1, fr1, r1, r2, _, r4, r5⟩ => ⟨fr1, h1, ⟨o, v, r1, r2, r4⟩, r5⟩
 | x :: L1, fr, h, hc, ⟨ox, vx, h1, fr1, r1, r2, r3, r4, r5⟩ => by
  obtain ⟨hap, c1, c2, c3⟩ := hc x List.mem_cons_self ox r1
  obtain ⟨a1, a2, a3⟩ := Oper.apart_spec hap
  obtain ⟨fr2, h2, ⟨o', vi, q1, q2, q3⟩, q4⟩ := frontR hF hi ki L1 (fun y hy => hc y (List.mem_cons_of_mem _ hy)) r5
  rw [hi] at q1; cases q1
  have hh := q2.heap ki; subst hh
  have g1 : Agr (oi.looksAt ops) fr1 fr := agr_put r4 fun t ht => a1 t ht
  have v1 := q2.congr g1
  have v2 : Val E call ops sl i oi fr h vi h := by
   cases k : readK ox.op with
   | true => rw [r2.heap k] at v1; exact v1
   | false => exact v1.noheap ki (c2 k) h
  obtain ⟨fri, pi⟩ := put_any q3 fr vi
  have g2 : Agr (ox.looksAt ops) fri fr := agr_put pi fun t ht => a3 t ht
  obtain ⟨frix, px⟩ := put_any r4 fri vx
  refine ⟨fri, h, ⟨oi, vi, hi, v2, pi⟩, ox, vx, h2, frix, r1, r2.congr g2.symm, fun w => ?_, px, RunS.congr hF (fun t => ?_) (Hq.refl _) q4⟩
  ·
   rw [wantedV_congr g2] at w
   exact (r3 w).congr fun r hr o ho => (agr_put pi fun t ht => c3 r hr o ho t ht).symm
  ·
   rw [put_at q3, put_at r4, put_at px, put_at pi]
   by_cases e1 : oi.dst = some t
   ·
    rw [if_pos e1, if_neg (fun e => a2 t e e1), if_pos e1]
   ·
    rw [if_neg e1, if_neg e1]
theorem frontE (hF : Framed call) {i : Nat} {ck : List Nat} {oi : Oper} (hi : ops[i]? = some oi) {L2 : List (Nat × List Nat)} {fr' : Fr} {h' : Heap} :
 ∀ (L1 : List (Nat × List Nat)) {fr : Fr} {h : Heap},
  (∀ x ∈ L1, ∀ ox, ops[x.1]? = some ox → ox.apart ops oi = true ∧ readK ox.op = true ∧ x.2 = [] ∧ (heapK ox.op = true → x.1 ∈ ck ∧ ∀ d, ox.dst = some d → d ∉ ox.looksAt ops)) →
  L1.Pairwise (fun x y => ∀ ox oy, ops[x.1]? = some ox → ops[y.1]? = some oy → heapK ox.op = true → ∀ d, oy.dst = some d → d ∉ ox.looksAt ops) →
  RunS E nt call ops sl (L1 ++ (i, ck) :: L2) fr h fr' h' →
  ∃ vi h1 fr1, Val E call ops sl i oi fr h vi h1 ∧ fr.put nt oi.dst vi = some fr1 ∧ RunS E nt call ops sl (L1 ++ L2) fr1 h1 fr' h' ∧
   ∃ frp, (∀ t, (∀ y ∈ L1, ∀ oy, ops[y.1]? = some oy → oy.dst ≠ some t) → frp.at t = fr.at t) ∧ (wantedV ops fr oi = true → Chk E ops frp h h1 ck)
 | [], fr, h, _, _, ⟨o, v, h1, fr1, r1, r2, r3, r4, r5⟩ => by
  rw [hi] at r1; cases r1
  exact ⟨v, h1, fr1, r2, r4, r5, fr, fun _ _ => rfl, r3⟩
 | x :: L1, fr, h, hc, hp, ⟨ox, vx, h1, fr1, r1, r2, r3, r4, r5⟩ => by
  obtain ⟨hap, kx, c1, c2⟩ := hc x List.mem_cons_self ox r1
  obtain ⟨a1, a2, a3⟩ := Oper.apart_spec hap
  have hh := r2.heap kx; subst hh
  obtain ⟨hp1, hp2⟩ := List.pairwise_cons.1 hp
  obtain ⟨vi, h2, fr2, q1, q2, q3, frp, q4, q5⟩ := frontE hF hi L1 (fun y hy => hc y (List.mem_cons_of_mem _ hy)) hp2 r5
  have g1 : Agr (oi.looksAt ops) fr1 fr := agr_put r4 fun t ht => a1 t ht
  have v1 := q1.congr g1
  obtain ⟨fri, pi⟩ := put_any q2 fr vi
  have g2 : Agr (ox.looksAt ops) fri fr := agr_put pi fun t ht => a3 t ht
  obtain ⟨frix, px⟩ := put_any r4 fri vx
  have ww : wantedV ops fr1 oi = wantedV ops fr oi := wantedV_congr g1
  have vx2 : Val E call ops sl x.1 ox fr h2 vx h2 := by
   cases hk : heapK ox.op with
   | false => exact r2.noheap kx hk h2
   | true =>
    obtain ⟨m, self⟩ := c2 hk
    rcases v1 with ⟨w1, w2⟩ | ⟨w1, w2, w3⟩
    ·
     have ch := q5 (by rw [ww]; exact w1)
     have ag : Agr (ox.looksAt ops) frp fr := by
      intro t ht
      rw [q4 t fun y hy oy hoy hd => hp1 y hy ox oy r1 hoy hk t hd ht, put_at r4, if_neg (fun e => self t e ht)]
     rcases r2 with ⟨u1, u2⟩ | ⟨u1, u2, _⟩
     ·
      obtain ⟨o', ho', hr⟩ := ch x.1 m
      rw [r1] at ho'; cases ho'
      obtain ⟨v', e1, e2⟩ := hr (by rw [wantedV_congr ag]; exact u1)
      rw [readV_congr (agrO_of ag)] at e1 e2
      rw [opS_opV (allocK_readK kx)] at u2
      have e3 := (readK_op kx u2).1
      rw [e1] at e3
      cases e3
      exact .inl ⟨u1, by rw [opS_opV (allocK_readK kx)]; exact op_readK e2⟩
     ·
      exact .inr ⟨u1, u2, rfl⟩
    ·
     rw [w3]; exact r2
  refine ⟨vi, h2, fri, v1, pi, ⟨ox, vx, h2, frix, r1, vx2.congr g2.symm, fun _ => ?_, px, RunS.congr hF (fun t => ?_) (Hq.refl _) q3⟩, frp, fun t ht => ?_, fun w => q5 (by rw [ww]; exact w)⟩
  ·
   rw [c1]; intro r hr; cases hr
  ·
   rw [put_at q2, put_at r4, put_at px, put_at pi]
   by_cases e1 : oi.dst = some t
   ·
    rw [if_pos e1, if_neg (fun e => a2 t e e1), if_pos e1]
   ·
    rw [if_neg e1, if_neg e1]
  ·
   rw [q4 t fun y hy => ht y (List.mem_cons_of_mem _ hy), put_at r4, if_neg (ht x List.mem_cons_self ox r1)]
theorem Val.dead (hF : Framed call) {i b : Nat} (hs : ∀ c, slotL sl i = some c → c ≠ b) {o : Oper} {fr : Fr} {h h' : Heap} {v : Value} (c : Val E call ops sl i o fr h v h') (hd : h.get b = some .dead) (hn : b < h.n) :
 h'.get b = some .dead ∧ b < h'.n ∧ ∀ x, ∃ h2', Val E call ops sl i o fr (h.set b x) v h2' ∧ Msk (fun y => Nat.beq y b) h (h.set b x) ∧ Msk (fun y => Nat.beq y b) h' h2' ∧ Hq (h'.set b x) h2' := by
 have mk : ∀ x, Msk (fun y => Nat.beq y b) h (h.set b x) := fun x =>
  ⟨rfl, rfl, rfl, fun y e => by rw [Nat.eq_of_beq_eq_true e]; exact hd, fun y e => by rw [get_set, if_neg (fun q => by rw [q, Nat.beq_refl] at e; cases e)], fun y e => by rw [Nat.eq_of_beq_eq_true e]; exact hn⟩
 have key : ∀ x, ∃ h2', Val E call ops sl i o fr (h.set b x) v h2' ∧ Msk (fun y => Nat.beq y b) h' h2' ∧ Kept (fun y => Nat.beq y b) (h.set b x) h2' := fun x =>
  c.msk hF (fun d hd' => by
   cases e : Nat.beq d b with
   | false => rfl
   | true => exact absurd (Nat.eq_of_beq_eq_true e) (hs d hd')) (mk x)
 obtain ⟨_, _, m0, _⟩ := key .dead
 refine ⟨m0.dead b (Nat.beq_refl b), m0.lt b (Nat.beq_refl b), fun x => ?_⟩
 obtain ⟨h2', q1, q2, q3⟩ := key x
 refine ⟨h2', q1, mk x, q2, ⟨q2.base, q2.lim, q2.n, (fun _ e => by cases e), fun y _ => ?_, (fun _ e => by cases e)⟩⟩
 rw [get_set]
 by_cases e : b = y
 ·
  subst e
  rw [if_pos rfl, q3 b (Nat.beq_refl b), get_set, if_pos rfl]
 ·
  rw [if_neg e]
  exact q2.get y (by
   cases q : Nat.beq y b with
   | false => rfl
   | true => exact absurd (Nat.eq_of_beq_eq_true q).symm e)
theorem frontA (hF : Framed call) {i : Nat} {ck : List Nat} {oi : Oper} (hi : ops[i]? = some oi) (ai : allocK oi.op = true) {b : Nat} (hb : slotL sl i = some b) {L2 : List (Nat × List Nat)} {fr' : Fr} {h' : Heap} :
 ∀ (L1 : List (Nat × List Nat)) {fr : Fr} {h : Heap},
  (∀ x ∈ L1, ∀ ox, ops[x.1]? = some ox → ox.apart ops oi = true ∧ (∀ c, slotL sl x.1 = some c → c ≠ b) ∧
   ∀ r ∈ x.2, ∀ o, ops[r]? = some o → ∀ d, oi.dst = some d → d ∉ o.looksAt ops) →
  h.get b = some .dead → b < h.n →
  RunS E nt call ops sl (L1 ++ (i, ck) :: L2) fr h fr' h' → ∃ fr1 h1, Stp E nt call ops sl i fr h fr1 h1 ∧ RunS E nt call ops sl (L1 ++ L2) fr1 h1 fr' h'
 | [], fr, h, _, _, _, ⟨o, v, h1, fr1, r1, r2, _, r4, r5⟩ => ⟨fr1, h1, ⟨o, v, r1, r2, r4⟩, r5⟩
 | x :: L1, fr, h, hc, hd, hn, ⟨ox, vx, h1, fr1, r1, r2, r3, r4, r5⟩ => by
  obtain ⟨hap, c1, c3⟩ := hc x List.mem_cons_self ox r1
  obtain ⟨a1, a2, a3⟩ := Oper.apart_spec hap
  obtain ⟨d1, d2, d3⟩ := r2.dead hF c1 hd hn
  obtain ⟨fr2, h2, ⟨o', vi, q1, q2, q3⟩, q4⟩ := frontA hF hi ai hb L1 (fun y hy => hc y (List.mem_cons_of_mem _ hy)) d1 d2 r5
  rw [hi] at q1; cases q1
  have g1 : Agr (oi.looksAt ops) fr1 fr := agr_put r4 fun t ht => a1 t ht
  have v1 := q2.congr g1
  obtain ⟨fri, pi⟩ := put_any q3 fr vi
  have g2 : Agr (ox.looksAt ops) fri fr := agr_put pi fun t ht => a3 t ht
  obtain ⟨frix, px⟩ := put_any r4 fri vx
  have ee : Eqv fr2 frix := fun t => by
   rw [put_at q3, put_at r4, put_at px, put_at pi]
   by_cases e1 : oi.dst = some t
   ·
    rw [if_pos e1, if_neg (fun e => a2 t e e1), if_pos e1]
   ·
    rw [if_neg e1, if_neg e1]
  rcases v1 with ⟨w1, w2⟩ | ⟨w1, w2, w3⟩
  ·
   unfold opS at w2
   rw [ai, hb] at w2
   simp only [cond_true] at w2
   obtain ⟨x0, e1, e2⟩ : ∃ x0, rsvV E fr h b oi.op = some (vi, h.set b x0) ∧ h2 = h1.set b x0 := by
    unfold rsvV at w2 ⊢
    split at w2
    ·
     rename_i cs T g hn
     rw [d1] at w2
     cases w2
     exact ⟨_, by rw [hd], rfl⟩
    ·
     cases w2
   obtain ⟨h2', p1, p2, p3, p4⟩ := d3 x0
   refine ⟨fri, h.set b x0, ⟨oi, vi, hi, .inl ⟨w1, ?_⟩, pi⟩, ox, vx, h2', frix, r1, p1.congr g2.symm, fun w => ?_, px, RunS.congr hF ee (by rw [e2]; exact p4) q4⟩
   ·
    unfold opS
    rw [ai, hb]
    exact e1
   ·
    rw [wantedV_congr g2] at w
    exact ((r3 w).msk p2 p3).congr fun r hr o ho => (agr_put pi fun t ht => c3 r hr o ho t ht).symm
  ·
   subst w3
   refine ⟨fri, h, ⟨oi, vi, hi, .inr ⟨w1, w2, rfl⟩, pi⟩, ox, vx, h2, frix, r1, r2.congr g2.symm, fun w => ?_, px, RunS.congr hF ee (Hq.refl _) q4⟩
   rw [wantedV_congr g2] at w
   exact (r3 w).congr fun r hr o ho => (agr_put pi fun t ht => c3 r hr o ho t ht).symm
inductive W (ops : Array Oper) : Nat → Nat → Prop
 | one {j i : Nat} {o : Oper} : ops[j]? = some o → i ∈ afters o → W ops j i
 | step {j e i : Nat} {o : Oper} : ops[j]? = some o → e ∈ afters o → W ops e i → W ops j i
variable (ops) in
def PairOK (x k : Nat × List Nat) : Prop :=
 ∀ ox ok, ops[x.1]? = some ox → ops[k.1]? = some ok →
  (x.1 ∉ afters ok → ox.apart ops ok = true) ∧
  (readK ox.op = false → readK ok.op = false → allocK ok.op = false → W ops k.1 x.1) ∧
  (readK ox.op = false → heapK ok.op = true → W ops k.1 x.1) ∧
  (heapK ox.op = true → readK ok.op = false → allocK ok.op = false → W ops k.1 x.1 ∨ x.1 ∈ k.2) ∧
  (heapK ox.op = true → ∀ d, ok.dst = some d → d ∉ ox.looksAt ops) ∧
  (∀ r ∈ x.2, ∀ o, ops[r]? = some o → ∀ d, ok.dst = some d → d ∉ o.looksAt ops)
variable (ops) in
def Vld : (Nat → Prop) → List (Nat × List Nat) → Prop
 | _, [] => True
 | S, x :: L => (∃ o, ops[x.1]? = some o ∧ ∀ e ∈ afters o, S e) ∧ Vld (fun e => S e ∨ e = x.1) L
theorem Vld.mono : ∀ {L : List (Nat × List Nat)} {S T : Nat → Prop}, (∀ e, S e → T e) → Vld ops S L → Vld ops T L
 | [], _, _, _, _ => trivial
 | x :: L, S, T, h, ⟨⟨o, ho, ha⟩, v⟩ => ⟨⟨o, ho, fun e he => h e (ha e he)⟩, Vld.mono (fun e he => he.imp (h e) id) v⟩
theorem Vld.front {i : Nat × List Nat} : ∀ {L1 L2 : List (Nat × List Nat)} {S : Nat → Prop}, Vld ops S (L1 ++ i :: L2) → Vld ops (fun e => S e ∨ e = i.1) (L1 ++ L2)
 | [], L2, S, ⟨_, v⟩ => v
 | x :: L1, L2, S, ⟨⟨o, ho, ha⟩, v⟩ => ⟨⟨o, ho, fun e he => .inl (ha e he)⟩, Vld.mono (fun e he => by
  rcases he with (h | h) | h
  ·
   exact .inl (.inl h)
  ·
   exact .inr h
  ·
   exact .inl (.inr h)) (Vld.front v)⟩
variable (ops) in
structure Inv (listed : Array Bool) (L : List (Nat × List Nat)) : Prop where
 size : listed.size = ops.size
 mem : ∀ j, j < ops.size → (listed.getD j true = false ↔ j ∈ L.map (·.1))
 nodup : (L.map (·.1)).Nodup
 closed : ∀ j o, ops[j]? = some o → listed.getD j false = true → ∀ e ∈ afters o, listed.getD e false = true
 valid : Vld ops (fun e => listed.getD e false = true) L
 pair : L.Pairwise (PairOK ops)
 single : ∀ x ∈ L, ∃ o, ops[x.1]? = some o ∧ (readK o.op = true → x.2 = []) ∧ (heapK o.op = true → ∀ d, o.dst = some d → d ∉ o.looksAt ops)
theorem getD_ff {listed : Array Bool} {j : Nat} (h : listed.getD j true = false) : listed.getD j false = false := by
 rcases Nat.lt_or_ge j listed.size with q | q
 ·
  simp [q] at h ⊢; exact h
 ·
  simp [Array.getElem?_eq_none q] at h
theorem mem_ready' {j : Nat} {listed : Array Bool} : j ∈ Region.ready .any ops listed ↔ listed.getD j true = false ∧ ∃ o, ops[j]? = some o ∧ ∀ e ∈ afters o, listed.getD e false = true := by
 rw [mem_ready]
 constructor
 ·
  rintro ⟨h0, o, ho, h⟩
  refine ⟨h0, o, ho, fun e he => ?_⟩
  obtain ⟨g, hg, rfl⟩ := List.mem_map.1 he
  obtain ⟨hg, hb⟩ := List.mem_filter.1 hg
  exact h g (by simpa using hg) hb
 ·
  rintro ⟨h0, o, ho, h⟩
  refine ⟨h0, o, ho, fun e he hb => h e.on ?_⟩
  exact List.mem_map.2 ⟨e, List.mem_filter.2 ⟨by simpa using he, hb⟩, rfl⟩
theorem W.listed {listed : Array Bool} (cl : ∀ j o, ops[j]? = some o → listed.getD j false = true → ∀ e ∈ afters o, listed.getD e false = true) {j i : Nat} (w : W ops j i) :
 ∀ o, ops[j]? = some o → (∀ e ∈ afters o, listed.getD e false = true) → listed.getD i false = true := by
 have key : ∀ {j i : Nat}, W ops j i → listed.getD j false = true → listed.getD i false = true := by
  intro j i w
  induction w with
  | one ho he => intro h; exact cl _ _ ho h _ he
  | step ho he _ ih => intro h; exact ih (cl _ _ ho h _ he)
 intro o ho h
 cases w with
 | one ho' he => rw [ho] at ho'; cases ho'; exact h _ he
 | step ho' he w => rw [ho] at ho'; cases ho'; exact key w (h _ he)
variable (E nt call ops sl) in
def AllOrd : Nat → Array Bool → Fr → Heap → Fr → Heap → Prop
 | 0, listed, fr, h, fr', h' => Region.ready .any ops listed = [] ∧ Eqv fr fr' ∧ Hq h h'
 | n + 1, listed, fr, h, fr', h' => (Region.ready .any ops listed = [] → Eqv fr fr' ∧ Hq h h') ∧
  ∀ i ∈ Region.ready .any ops listed, ∃ fr1 h1, Stp E nt call ops sl i fr h fr1 h1 ∧ AllOrd n (listed.setIfInBounds i true) fr1 h1 fr' h'
theorem allOrd (hF : Framed call) (inj : ∀ i j b, slotL sl i = some b → slotL sl j = some b → i = j) (tot : ∀ (i : Nat) (o : Oper), ops[i]? = some o → allocK o.op = true → ∃ b, slotL sl i = some b) {fr' : Fr} {h' : Heap} :
 ∀ (n : Nat) {L : List (Nat × List Nat)} {listed : Array Bool} {fr : Fr} {h : Heap}, L.length = n → Inv ops listed L → (∀ x ∈ L, ∀ b, slotL sl x.1 = some b → h.get b = some .dead ∧ b < h.n) →
  RunS E nt call ops sl L fr h fr' h' → AllOrd E nt call ops sl n listed fr h fr' h'
 | 0, L, listed, fr, h, hl, I, sd, r => by
  have : L = [] := List.length_eq_zero_iff.1 hl
  subst this
  refine ⟨List.eq_nil_iff_forall_not_mem.2 fun j hj => ?_, r⟩
  obtain ⟨h0, o, ho, _⟩ := mem_ready'.1 hj
  have := (I.mem j (Array.getElem?_eq_some_iff.1 ho).1).1 h0
  simp at this
 | n + 1, L, listed, fr, h, hl, I, sd, r => by
  refine ⟨fun h0 => ?_, fun i hi => ?_⟩
  ·
   cases L with
   | nil => simp at hl
   | cons x L =>
    obtain ⟨⟨o, ho, ha⟩, _⟩ := I.valid
    have hx := (I.mem x.1 (Array.getElem?_eq_some_iff.1 ho).1).2 (by simp)
    have : x.1 ∈ Region.ready .any ops listed := mem_ready'.2 ⟨hx, o, ho, ha⟩
    rw [h0] at this; cases this
  ·
   obtain ⟨h0, oi, hoi, ha⟩ := mem_ready'.1 hi
   have hlt := (Array.getElem?_eq_some_iff.1 hoi).1
   obtain ⟨x, hx, hxi⟩ := List.mem_map.1 ((I.mem i hlt).1 h0)
   obtain ⟨L1, L2, rfl⟩ := List.append_of_mem hx
   obtain ⟨i', ck⟩ := x
   simp only at hxi
   subst hxi
   have hpw := List.pairwise_append.1 I.pair
   have un : ∀ x ∈ L1, listed.getD x.1 false = false := by
    intro x hx1
    obtain ⟨o, ho, _⟩ := I.single x (List.mem_append_left _ hx1)
    exact getD_ff ((I.mem x.1 (Array.getElem?_eq_some_iff.1 ho).1).2 (List.mem_map.2 ⟨x, List.mem_append_left _ hx1, rfl⟩))
   have noW : ∀ x ∈ L1, ¬ W ops i' x.1 := by
    intro x hx1 w
    have := w.listed I.closed oi hoi ha
    rw [un x hx1] at this; cases this
   have apt : ∀ x ∈ L1, ∀ ox, ops[x.1]? = some ox → ox.apart ops oi = true := by
    intro x hx1 ox hox
    refine (hpw.2.2 x hx1 _ List.mem_cons_self ox oi hox hoi).1 fun hm => ?_
    have := ha _ hm
    rw [un x hx1] at this; cases this
   have sg : ∀ x ∈ L1, ∀ ox, ops[x.1]? = some ox → (readK ox.op = true → x.2 = []) ∧ (heapK ox.op = true → ∀ d, ox.dst = some d → d ∉ ox.looksAt ops) := by
    intro x hx1 ox hox
    obtain ⟨o, ho, q⟩ := I.single x (List.mem_append_left _ hx1)
    rw [hox] at ho; cases ho; exact q
   have nd0 := I.nodup
   simp only [List.map_append, List.map_cons] at nd0
   have nd3' : ∀ x ∈ L1, x.1 = i' → False := fun x hx1 e => (List.nodup_append.1 nd0).2.2 x.1 (List.mem_map.2 ⟨x, hx1, rfl⟩) i' List.mem_cons_self e
   have nd4' : ∀ x ∈ L2, x.1 = i' → False := fun x hx1 e => (List.nodup_cons.1 (List.nodup_append.1 nd0).2.1).1 (List.mem_map.2 ⟨x, hx1, e⟩)
   have step : ∃ fr1 h1, Stp E nt call ops sl i' fr h fr1 h1 ∧ RunS E nt call ops sl (L1 ++ L2) fr1 h1 fr' h' := by
    cases ki : readK oi.op with
    | true =>
     refine frontR hF hoi ki L1 (fun x hx1 ox hox => ⟨apt x hx1 ox hox, (sg x hx1 ox hox).1, fun kx => ?_, ?_⟩) r
     ·
      cases hk : heapK oi.op with
      | false => rfl
      | true => exact absurd ((hpw.2.2 x hx1 _ List.mem_cons_self ox oi hox hoi).2.2.1 kx hk) (noW x hx1)
     ·
      exact (hpw.2.2 x hx1 _ List.mem_cons_self ox oi hox hoi).2.2.2.2.2
    | false =>
     cases ai : allocK oi.op with
     | true =>
      obtain ⟨b, hb⟩ := tot _ _ hoi ai
      obtain ⟨d1, d2⟩ := sd _ hx b hb
      refine frontA hF hoi ai hb L1 (fun x hx1 ox hox => ⟨apt x hx1 ox hox, fun c hc e => ?_, (hpw.2.2 x hx1 _ List.mem_cons_self ox oi hox hoi).2.2.2.2.2⟩) d1 d2 r
      subst e
      have := inj _ _ _ hc hb
      exact nd3' x hx1 this
     | false =>
      have rk : ∀ x ∈ L1, ∀ ox, ops[x.1]? = some ox → readK ox.op = true := by
       intro x hx1 ox hox
       cases k : readK ox.op with
       | true => rfl
       | false => exact absurd ((hpw.2.2 x hx1 _ List.mem_cons_self ox oi hox hoi).2.1 k ki ai) (noW x hx1)
      obtain ⟨vi, h1, fr1, q1, q2, q3, _⟩ := frontE hF hoi L1 (fun x hx1 ox hox => ⟨apt x hx1 ox hox, rk x hx1 ox hox, (sg x hx1 ox hox).1 (rk x hx1 ox hox), fun hk => ⟨((hpw.2.2 x hx1 _ List.mem_cons_self ox oi hox hoi).2.2.2.1 hk ki ai).resolve_left (noW x hx1), (sg x hx1 ox hox).2 hk⟩⟩)
       (hpw.1.imp fun {x y} h ox oy hox hoy hk => (h ox oy hox hoy).2.2.2.2.1 hk) r
      exact ⟨fr1, h1, ⟨oi, vi, hoi, q1, q2⟩, q3⟩
   obtain ⟨fr1, h1, s1, s2⟩ := step
   refine ⟨fr1, h1, s1, allOrd hF inj tot n (by simp at hl ⊢; omega) ?_ ?_ s2⟩
   rotate_left
   ·
    intro x hx2 b hb
    obtain ⟨o', v', t1, t2, t3⟩ := s1
    have xm : x ∈ L1 ++ (i', ck) :: L2 := by
     rcases List.mem_append.1 hx2 with q | q
     ·
      exact List.mem_append_left _ q
     ·
      exact List.mem_append_right _ (List.mem_cons_of_mem _ q)
    obtain ⟨d1, d2⟩ := sd x xm b hb
    have ne : ∀ c, slotL sl i' = some c → c ≠ b := by
     intro c hc e
     subst e
     have e := inj _ _ _ hb hc
     rcases List.mem_append.1 hx2 with q | q
     ·
      exact nd3' x q e
     ·
      exact nd4' x q e
    obtain ⟨g1, g2, _⟩ := t2.dead hF ne d1 d2
    exact ⟨g1, g2⟩
   have sub : (L1 ++ L2).Sublist (L1 ++ (i', ck) :: L2) := List.Sublist.append_left (List.sublist_cons_self _ _) _
   have lti : i' < listed.size := by rw [I.size]; exact hlt
   have nd := I.nodup
   simp only [List.map_append, List.map_cons] at nd
   obtain ⟨nd1, nd2, nd3⟩ := List.nodup_append.1 nd
   refine ⟨by simp [I.size], fun j hj => ?_, I.nodup.sublist (sub.map _), fun j o ho hj e he => ?_, ?_, I.pair.sublist sub, fun x hx => I.single x (sub.subset hx)⟩
   ·
    by_cases e : i' = j
    ·
     subst e
     have e1 : (listed.setIfInBounds i' true).getD i' true = true := by simp [lti]
     rw [e1]
     constructor
     ·
      intro q; cases q
     ·
      intro q
      exfalso
      simp only [List.map_append, List.mem_append] at q
      rcases q with q | q
      ·
       exact nd3 _ q _ List.mem_cons_self rfl
      ·
       exact (List.nodup_cons.1 nd2).1 q
    ·
     rw [getD_set_ne true e, I.mem j hj]
     simp only [List.map_append, List.map_cons, List.mem_append, List.mem_cons]
     constructor
     ·
      rintro (q | q | q)
      ·
       exact .inl q
      ·
       exact absurd q.symm e
      ·
       exact .inr q
     ·
      rintro (q | q)
      ·
       exact .inl q
      ·
       exact .inr (.inr q)
   ·
    by_cases e2 : i' = j
    ·
     subst e2
     rw [hoi] at ho; cases ho
     exact getD_set_true (ha e he)
    ·
     rw [getD_set_ne false e2] at hj
     exact getD_set_true (I.closed j o ho hj e he)
   ·
    refine Vld.mono (fun e he => ?_) (Vld.front I.valid)
    rcases he with he | he
    ·
     exact getD_set_true he
    ·
     simp only at he
     subst he; simp [lti]
end
def noDst (ops : Array Oper) (k x : Oper) : Bool := match k.dst with
 | none => true
 | some d => !(x.looksAt ops).contains d
theorem noDst_spec {ops : Array Oper} {k x : Oper} (h : noDst ops k x = true) : ∀ d, k.dst = some d → d ∉ x.looksAt ops := by
 intro d hd
 simp only [noDst, hd] at h
 simpa using h
def okPair (ops : Array Oper) (t : Nat) (ok : Oper) (ck : List Nat) (x : Nat × List Nat) : Bool := match ops[x.1]? with
 | none => false
 | some ox =>
  ((afters ok).any (Nat.beq x.1) || ox.apart ops ok) && (readK ox.op || readK ok.op || allocK ok.op || hasBit t x.1) && (readK ox.op || !heapK ok.op || hasBit t x.1) &&
  (!heapK ox.op || readK ok.op || allocK ok.op || hasBit t x.1 || ck.any (Nat.beq x.1)) && (!heapK ox.op || noDst ops ok ox) &&
  x.2.all (fun r => match ops[r]? with | some o => noDst ops ok o | none => true)
def chkL (ops : Array Oper) : List (Nat × List Nat) → List (Nat × Nat) → List (Nat × List Nat) → Bool
 | _, _, [] => true
 | done, T, (j, ck) :: r => match ops[j]? with
  | none => false
  | some o =>
   !(done.any fun x => Nat.beq j x.1) && (afters o).all (fun e => done.any fun x => Nat.beq e x.1) && (!readK o.op || ck.isEmpty) && (!heapK o.op || noDst ops o o) &&
   done.all (okPair ops (maskT T (afters o)) o ck) && chkL ops (done ++ [(j, ck)]) ((j, maskT T (afters o)) :: T) r
def schedChk (ops : Array Oper) (L : List (Nat × List Nat)) : Bool :=
 Nat.beq L.length ops.size && ((List.range ops.size).all fun j => L.any fun x => Nat.beq j x.1) && chkL ops [] [] L
def schedOK (ops : Array Oper) : Bool := schedChk ops (sched ops)
theorem hasBit_test (m i : Nat) : hasBit m i = m.testBit i := by
 unfold hasBit Nat.testBit
 show Nat.beq ((m >>> i) &&& 1) 1 = _
 rw [Nat.and_comm]
 generalize hx : 1 &&& (m >>> i) = x
 have : x < 2 := by
  rw [← hx, Nat.and_comm, Nat.and_one_is_mod]; omega
 match x, this with
 | 0, _ => rfl
 | 1, _ => rfl
theorem hasBit_zero (i : Nat) : hasBit 0 i = false := by rw [hasBit_test]; simp
theorem hasBit_lor (a b i : Nat) : hasBit (Nat.lor a b) i = (hasBit a i || hasBit b i) := by
 rw [hasBit_test, hasBit_test, hasBit_test]; exact Nat.testBit_or a b i
theorem hasBit_add (m e i : Nat) : hasBit (addBit m e) i = (hasBit m i || decide (e = i)) := by
 unfold addBit
 rw [hasBit_lor, hasBit_test (Nat.shiftLeft 1 e)]
 congr 1
 show (1 <<< e).testBit i = _
 rw [Nat.one_shiftLeft, Nat.testBit_two_pow]
section
variable {ops : Array Oper}
theorem anyBeq {l : List Nat} {i : Nat} (h : l.any (Nat.beq i) = true) : i ∈ l := by
 obtain ⟨x, hx, e⟩ := List.any_eq_true.1 h
 rw [Nat.eq_of_beq_eq_true e]; exact hx
theorem anyBeq1 {l : List (Nat × List Nat)} {i : Nat} : (l.any fun x => Nat.beq i x.1) = true ↔ i ∈ l.map (·.1) := by
 constructor
 ·
  intro h
  obtain ⟨x, hx, e⟩ := List.any_eq_true.1 h
  exact List.mem_map.2 ⟨x, hx, (Nat.eq_of_beq_eq_true e).symm⟩
 ·
  intro h
  obtain ⟨x, hx, e⟩ := List.mem_map.1 h
  exact List.any_eq_true.2 ⟨x, hx, by rw [e]; exact Nat.beq_refl i⟩
def TOK (ops : Array Oper) (T : List (Nat × Nat)) : Prop := ∀ j i, hasBit (lookT T j) i = true → W ops j i
theorem maskT_ok {T : List (Nat × Nat)} (hT : TOK ops T) {j : Nat} {o : Oper} (ho : ops[j]? = some o) : ∀ (l : List Nat), (∀ e ∈ l, e ∈ afters o) → ∀ i, hasBit (maskT T l) i = true → W ops j i
 | [], _, i, h => by rw [maskT, hasBit_zero] at h; cases h
 | e :: r, hl, i, h => by
  rw [maskT, hasBit_lor, hasBit_add, Bool.or_eq_true, Bool.or_eq_true] at h
  rcases h with (h | h) | h
  ·
   exact .step ho (hl e List.mem_cons_self) (hT e i h)
  ·
   exact .one ho (by have := of_decide_eq_true h; subst this; exact hl e List.mem_cons_self)
  ·
   exact maskT_ok hT ho r (fun e he => hl e (List.mem_cons_of_mem _ he)) i h
theorem TOK.cons {T : List (Nat × Nat)} (hT : TOK ops T) {j : Nat} {o : Oper} (ho : ops[j]? = some o) : TOK ops ((j, maskT T (afters o)) :: T) := by
 intro k i h
 unfold lookT at h
 cases e : Nat.beq j k with
 | true =>
  rw [e] at h
  have := Nat.eq_of_beq_eq_true e
  subst this
  exact maskT_ok hT ho _ (fun _ h => h) i h
 | false => rw [e] at h; exact hT k i h
theorem okPair_spec {T : List (Nat × Nat)} (hT : TOK ops T) {j : Nat} {o : Oper} (ho : ops[j]? = some o) {ck : List Nat} {x : Nat × List Nat} (h : okPair ops (maskT T (afters o)) o ck x = true) : PairOK ops x (j, ck) := by
 intro ox ok hox hok
 simp only at hok
 rw [ho] at hok; cases hok
 unfold okPair at h
 rw [hox] at h
 simp only [Bool.and_eq_true] at h
 obtain ⟨⟨⟨⟨⟨h1, h2⟩, h3⟩, h4⟩, h5⟩, h6⟩ := h
 have bit : hasBit (maskT T (afters o)) x.1 = true → W ops j x.1 := maskT_ok hT ho _ (fun _ h => h) _
 refine ⟨fun n => ?_, fun a b c => ?_, fun a b => ?_, fun a b c => ?_, fun a => ?_, fun r hr q hq => ?_⟩
 ·
  rcases (Bool.or_eq_true _ _).mp h1 with h | h
  ·
   exact absurd (anyBeq h) n
  ·
   exact h
 ·
  rw [a, b, c] at h2; exact bit (by simpa using h2)
 ·
  rw [a, b] at h3; exact bit (by simpa using h3)
 ·
  rw [a, b, c] at h4
  simp only [Bool.not_true, Bool.false_or] at h4
  rcases (Bool.or_eq_true _ _).mp h4 with h | h
  ·
   exact .inl (bit h)
  ·
   exact .inr (anyBeq h)
 ·
  rw [a] at h5; exact noDst_spec (by simpa using h5)
 ·
  have := List.all_eq_true.1 h6 r hr
  rw [hq] at this
  exact noDst_spec this
theorem chkL_spec : ∀ (L done : List (Nat × List Nat)) (T : List (Nat × Nat)), TOK ops T → chkL ops done T L = true →
 (∀ x ∈ done, ∀ y ∈ L, PairOK ops x y ∧ x.1 ≠ y.1) ∧ L.Pairwise (PairOK ops) ∧ (L.map (·.1)).Nodup ∧ Vld ops (fun e => e ∈ done.map (·.1)) L ∧
 (∀ x ∈ L, ∃ o, ops[x.1]? = some o ∧ (readK o.op = true → x.2 = []) ∧ (heapK o.op = true → ∀ d, o.dst = some d → d ∉ o.looksAt ops))
 | [], done, T, _, _ => ⟨(fun _ _ _ h => by cases h), List.Pairwise.nil, List.nodup_nil, trivial, (fun _ h => by cases h)⟩
 | (j, ck) :: r, done, T, hT, h => by
  unfold chkL at h
  split at h
  ·
   cases h
  ·
   rename_i o ho
   simp only [Bool.and_eq_true] at h
   obtain ⟨⟨⟨⟨⟨h1, h2⟩, h3⟩, h4⟩, h5⟩, h6⟩ := h
   obtain ⟨k1, k2, k3, k4, k5⟩ := chkL_spec r _ _ (hT.cons ho) h6
   have dn : ∀ x ∈ done, PairOK ops x (j, ck) ∧ x.1 ≠ j := by
    intro x hx
    refine ⟨okPair_spec hT ho (List.all_eq_true.1 h5 x hx), fun e => ?_⟩
    have : (done.any fun x => Nat.beq j x.1) = true := List.any_eq_true.2 ⟨x, hx, by rw [e]; exact Nat.beq_refl j⟩
    rw [this] at h1; cases h1
   refine ⟨fun x hx y hy => ?_, List.pairwise_cons.2 ⟨fun y hy => (k1 (j, ck) (by simp) y hy).1, k2⟩, ?_, ⟨⟨o, ho, fun e he => ?_⟩, ?_⟩, fun x hx => ?_⟩
   ·
    rcases List.mem_cons.1 hy with rfl | hy
    ·
     exact dn x hx
    ·
     exact k1 x (List.mem_append_left _ hx) y hy
   ·
    rw [List.map_cons, List.nodup_cons]
    refine ⟨fun hm => ?_, k3⟩
    obtain ⟨y, hy, e⟩ := List.mem_map.1 hm
    exact (k1 (j, ck) (by simp) y hy).2 e.symm
   ·
    exact anyBeq1.1 (List.all_eq_true.1 h2 e he)
   ·
    refine Vld.mono (fun e he => ?_) k4
    simp only [List.map_append, List.mem_append, List.map_cons, List.map_nil, List.mem_singleton] at he
    exact he
   ·
    rcases List.mem_cons.1 hx with rfl | hx
    ·
     refine ⟨o, ho, fun k => ?_, fun k => ?_⟩
     ·
      rw [k] at h3; simpa using h3
     ·
      rw [k] at h4; exact noDst_spec (by simpa using h4)
    ·
     exact k5 x hx
theorem schedChk_inv {L : List (Nat × List Nat)} (h : schedChk ops L = true) : L.length = ops.size ∧ Inv ops (Array.replicate ops.size false) L := by
 unfold schedChk at h
 simp only [Bool.and_eq_true] at h
 obtain ⟨⟨h1, h2⟩, h3⟩ := h
 obtain ⟨_, k2, k3, k4, k5⟩ := chkL_spec L [] [] (fun j i h => by rw [lookT, hasBit_zero] at h; cases h) h3
 refine ⟨Nat.eq_of_beq_eq_true h1, by simp, fun j hj => ?_, k3, fun j o ho hl => ?_, Vld.mono (fun e he => ?_) k4, k2, k5⟩
 ·
  constructor
  ·
   intro _; exact anyBeq1.1 (List.all_eq_true.1 h2 j (List.mem_range.2 hj))
  ·
   intro _; simp [hj]
 ·
  exfalso
  by_cases q : j < ops.size
  ·
   simp [q] at hl
  ·
   have := (Array.getElem?_eq_some_iff.1 ho).1; omega
 ·
  simp at he
end
end Go.Proofs.YtokfjifeofpkkaaGreat.V
