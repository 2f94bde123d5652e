/- Every writing operation of the clean machine does what the model's does (first part).
   Conditions: it goes through, and heap and frame stand as V2 says. -/
import Derived.Test.YtadfhabapgipbaaV9
namespace Go.Proofs.Ytadfhabapgipbaa.V
open Go
set_option linter.unusedVariables false
set_option linter.unusedSimpArgs false

/-- What a writing operation leaves. -/
def WOut (P : Program) (Wr : Nat → Prop) (β : Inj) (hp : Heap) (w : World) (hp' : Heap) (v : Value) (s : Sem Value) : Prop :=
  ∃ β' w' v', Up hp.n β β' ∧ Sim P Wr β' hp' w' ∧ VR β' v v' ∧ FrameW Wr w w' ∧ Lm hp hp' ∧ s.run P w = .ok v' w'

theorem repZ_len (z : List Value) : ∀ n, (repZ z n).length = n * z.length
  | 0 => by simp [repZ]
  | n + 1 => by simp [repZ, repZ_len z n, Nat.add_mul]; omega

theorem repZ_get (z : List Value) : ∀ (n i : Nat), i < n * z.length → (repZ z n)[i]? = z[i % z.length]?
  | 0, i, h => by simp at h
  | n + 1, i, h => by
    have hz : 0 < z.length := Nat.pos_of_ne_zero (fun e => by simp [e] at h)
    rw [Nat.add_mul, Nat.one_mul] at h
    simp only [repZ]
    by_cases q : i < z.length
    · rw [List.getElem?_append_left q, Nat.mod_eq_of_lt q]
    · rw [List.getElem?_append_right (by omega), repZ_get z n _ (by omega)]
      congr 1
      exact (Nat.mod_eq_sub_mod (by omega)).symm

theorem zrep (z : Array Value) (n : Nat) : ((Array.range (n * z.size)).map (fun i => z[i % z.size]!)).toList = repZ z.toList n := by
  apply List.ext_getElem?
  intro i
  by_cases q : i < n * z.size
  · have hz : 0 < z.size := Nat.pos_of_ne_zero (fun e => by simp [e] at q)
    have hm := Nat.mod_lt i hz
    rw [repZ_get _ _ _ (by simpa using q)]
    simp [q, hm]
  · have e1 : (repZ z.toList n)[i]? = none := by rw [List.getElem?_eq_none]; rw [repZ_len]; simp; omega
    rw [e1]; simp; omega

theorem VRs.repZ {β : Inj} {z z' : List Value} (h : VRs β z z') : ∀ n, VRs β (V.repZ z n) (V.repZ z' n)
  | 0 => .nil
  | n + 1 => h.append (VRs.repZ h n)

/-- A new row. -/
theorem newRow_ok {P : Program} {Wr : Nat → Prop} {β : Inj} {hp : Heap} {w : World} (S : Sim P Wr β hp w) {c : List Value} {C : Array Value} (hc : VRs β c C.toList) (T : TypeId) :
    ∃ β' w', Up hp.n β β' ∧ β' hp.n = some ⟨w.heap.size, 0, C.size, P.cellsOf T⟩ ∧ Sim P Wr β' (hp.alloc (.cells c T)) w' ∧ FrameW Wr w w' ∧ (newRow T C).run P w = .ok ⟨w.heap.size, 0, none⟩ w' := by
  have hl := hc.len
  obtain ⟨β', h1, h2, h3, h4⟩ := S.alloc (c := c) (C := C) (T := T) (w' := { w with heap := w.heap.push (.cells C T) }) (by simp at hl; omega)
    (fun i v hv => by obtain ⟨v', e1, e2⟩ := hc.get i hv; exact ⟨v', by simpa using e1, e2⟩) rfl rfl rfl rfl
  exact ⟨β', _, h1, h2, h3, h4, rfl⟩

theorem ptr_new {β : Inj} {n B N k : Nat} (h : β n = some ⟨B, 0, N, k⟩) : VR β (ptrTo n) (.pointer (some ⟨B, 0, none⟩)) := by
  have := AR.new (o := 0) h
  unfold ptrTo
  simpa using VR.ptr this

theorem alloc_ok {E : Env} {Wr : Nat → Prop} {β : Inj} {hp : Heap} {w : World} (S : Sim E.P Wr β hp w) {t : TypeId} {z : Value} (hz : zeroOf E.P t = some z) :
    WOut E.P Wr β hp w (hp.alloc (.cells z.cells.toList t)) (ptrTo hp.n) (Instr.alloc t true (.tuple #[])) := by
  have hzp := (r_zero (w := w) hz).2
  obtain ⟨β', w', h1, h2, h3, h4, h5⟩ := newRow_ok S (cells_ok (VR.plain (β := β) 4 z hzp)) t
  refine ⟨β', w', _, h1, h3, ptr_new h2, h4, Lm.alloc _ _, ?_⟩
  simp only [Instr.alloc, Sem.run_bind, (r_zero hz).1, Result.andThen_ok, newVar, h5, Sem.run_pure]

theorem box_ok {P : Program} {Wr : Nat → Prop} {β : Inj} {hp : Heap} {w : World} (S : Sim P Wr β hp w) {t : TypeId} {x x' : Value} (hx : VR β x x') :
    WOut P Wr β hp w (hp.alloc (.cells x.cells.toList t)) (ptrTo hp.n) (Instr.box t x') := by
  obtain ⟨β', w', h1, h2, h3, h4, h5⟩ := newRow_ok S (cells_ok hx) t
  refine ⟨β', w', _, h1, h3, ptr_new h2, h4, Lm.alloc _ _, ?_⟩
  simp only [Instr.box, Sem.run_bind, newVar, h5, Result.andThen_ok, Sem.run_pure]

theorem slice_new {β : Inj} {n B N k : Nat} (h : β n = some ⟨B, 0, N, k⟩) (l c : Nat) : VR β (.slice (some ⟨n, 0, none⟩) l c) (.slice (some ⟨B, 0, none⟩) l c) := by
  have := AR.new (o := 0) h
  simpa using VR.slice this l c

theorem buildSlice_ok {E : Env} {Wr : Nat → Prop} {β : Inj} {hp : Heap} {w : World} (S : Sim E.P Wr β hp w) {t elem : TypeId} (hu : E.P.underlying t = some (.slice elem)) {k len : Nat} (hk : sz E.P elem = some k) {z : Value} (hz : zeroOf E.P elem = some z)
    (hlen : len * k ≤ 16777216) (hzk : z.cells.size = k) {p : List (Nat × Value)} {p' : Array (Nat × Value)} (hpp : PRs β p p'.toList) {c : List Value} (hc : fillL (fun i => some (i * k, k)) (repZ z.cells.toList len) p = some c) :
    WOut E.P Wr β hp w (hp.alloc (.cells c elem)) (.slice (some ⟨hp.n, 0, none⟩) len len) (Instr.buildSlice t len p') := by
  have hzp := (r_zero (w := w) hz).2
  have hzc := cells_ok (VR.plain (β := β) 4 z hzp)
  have hrep := VRs.repZ hzc len
  rw [← zrep, hzk] at hrep
  obtain ⟨c', g1, g2⟩ := fill_ok _ _ _ _ _ _ hpp (by rw [← zrep, hzk]; exact hrep) hc
  obtain ⟨β', w', h1, h2, h3, h4, h5⟩ := newRow_ok S g2 elem
  refine ⟨β', w', _, h1, h3, slice_new h2 _ _, h4, Lm.alloc _ _, ?_⟩
  have hlen' : ¬ len * k > 2 ^ 24 := by omega
  simp only [Instr.buildSlice, Sem.run_bind, r_underlying hu, Result.andThen_ok, r_size hk, if_neg hlen']
  by_cases q : len * k = 0
  · rw [if_pos q]
    have e : (Array.range (len * k)).map (fun i => (#[] : Array Value)[i % (#[] : Array Value).size]!) = (Array.range (len * k)).map (fun i => z.cells[i % k]!) := by rw [q]; simp
    simp only [Sem.run_bind, Sem.run_pure, Result.andThen_ok]
    rw [e, g1]
    simp only [Sem.run_bind, h5, Result.andThen_ok, Sem.run_pure]
  · rw [if_neg q]
    simp only [Sem.run_bind, (r_zero hz).1, Result.andThen_ok, Sem.run_pure, hzk]
    rw [g1]
    simp only [Sem.run_bind, h5, Result.andThen_ok, Sem.run_pure]

theorem makeMap_ok {P : Program} {Wr : Nat → Prop} {β : Inj} {hp : Heap} {w : World} (S : Sim P Wr β hp w) :
    ∃ β' w', Up hp.n β β' ∧ β' hp.n = some ⟨w.heap.size, 0, 0, 0⟩ ∧ Sim P Wr β' (hp.alloc (.map [])) w' ∧ FrameW Wr w w' ∧ (newObj (.map #[] 0)).run P w = .ok w.heap.size w' := by
  obtain ⟨β', h1, h2, h3, h4⟩ := S.allocM (w' := { w with heap := w.heap.push (.map #[] 0) }) rfl rfl rfl rfl
  exact ⟨β', _, h1, h2, h3, h4, rfl⟩

theorem wrap_i64 {n : Int} (h0 : -9223372036854775808 ≤ n) (h1 : n ≤ 9223372036854775807) : IntKind.i64.wrap n = n := by
  simp only [IntKind.wrap, IntKind.bits, IntKind.signed]
  simp
  split <;> omega

theorem makeSlice_ok {E : Env} {Wr : Nat → Prop} {β : Inj} {hp : Heap} {w : World} (S : Sim E.P Wr β hp w) {t elem : TypeId} (hu : E.P.underlying t = some (.slice elem)) {k b : Nat} (hk : sz E.P elem = some k) (hb : bytesOf E.P elem = some b) {z : Value} (hz : zeroOf E.P elem = some z)
    (hzk : z.cells.size = k) {l c : Int} (hd : 0 ≤ l ∧ l ≤ c ∧ c ≤ 140737488355328 ∧ b * c ≤ 281474976710656) :
    WOut E.P Wr β hp w (hp.alloc (.cells (repZ z.cells.toList c.toNat) elem)) (.slice (some ⟨hp.n, 0, none⟩) l.toNat c.toNat) (Instr.makeSlice t (.int .i64 l) (.int .i64 c)) := by
  have hzp := (r_zero (w := w) hz).2
  have hzc := cells_ok (VR.plain (β := β) 4 z hzp)
  have hrep := VRs.repZ hzc c.toNat
  have hi : ∃ i, E.P.info? elem = some i ∧ i.bytes = b := by
    unfold bytesOf at hb; split at hb
    · rename_i i hi; cases hb; exact ⟨i, hi, rfl⟩
    · cases hb
  obtain ⟨i, hi, hib⟩ := hi
  obtain ⟨β', w', h1, h2, h3, h4, h5⟩ := newRow_ok S (C := (Array.range (c.toNat * k)).map (fun i => z.cells[i % k]!)) (c := repZ z.cells.toList c.toNat) (by have := zrep z.cells c.toNat; rw [hzk] at this; rw [this]; exact hrep) elem
  refine ⟨β', w', _, h1, h3, slice_new h2 _ _, h4, Lm.alloc _ _, ?_⟩
  have wl : IntKind.i64.wrap l = l := wrap_i64 (by omega) (by omega)
  have wc : IntKind.i64.wrap c = c := wrap_i64 (by omega) (by omega)
  have t1 : ¬ (((decide (c < 0) || decide ((b : Int) * c > 2 ^ 48)) || decide (l < 0) || decide (l > c)) = true) := by
    simp; omega
  simp only [Instr.makeSlice, Sem.run_bind, r_underlying hu, Result.andThen_ok, asInt, asIntOf, Sem.run_pure, r_info hi, hib, wl, wc, Sem.run_ite, if_neg t1, run_askRoom, r_size hk]
  by_cases q : c.toNat * k = 0
  · rw [if_pos q]
    have e : (Array.range (c.toNat * k)).map (fun i => (#[] : Array Value)[i % (#[] : Array Value).size]!) = (Array.range (c.toNat * k)).map (fun i => z.cells[i % k]!) := by rw [q]; simp
    rw [e, h5]
    simp only [Result.andThen_ok]
  · rw [if_neg q]
    simp only [Sem.run_bind, Sem.run_pure, (r_zero hz).1, Result.andThen_ok, hzk, h5]

theorem storeV_ok {E : Env} {Wr : Nat → Prop} {β : Inj} {hp hp' : Heap} {w : World} (S : Sim E.P Wr β hp w) {t : TypeId} {a a' v v' : Value} (ha : VR β a a') (hv : VR β v v') (h : storeV E hp t a v = some hp') :
    ∃ w', (Instr.storeAt t a' v').run E.P w = .ok () w' ∧ Sim E.P Wr β hp' w' ∧ FrameW Wr w w' ∧ Lm hp hp' := by
  unfold storeV at h
  split at h
  · rename_i p
    cases ha with | @ptr _ p' hA => ?_
    split at h
    · rename_i k hk
      obtain ⟨hq, h⟩ := bif_some h
      have hq : v.cells.size = k := Nat.eq_of_beq_eq_true hq
      have hc := cells_ok hv
      obtain ⟨w', h1, h2, h3, h4, h5⟩ := storeCells_ok S hA hc h
      refine ⟨w', ?_, h2, h3, Lm.of h4 h5⟩
      have hq' : ¬ v'.cells.size ≠ k := by have := hc.len; simp at this; omega
      simp only [Instr.storeAt, Instr.sureAddr, Sem.run_bind, Sem.run_pure, Result.andThen_ok, storeVar, r_size hk, if_neg hq', h1]
    · cases h
  · cases h

end Go.Proofs.Ytadfhabapgipbaa.V
