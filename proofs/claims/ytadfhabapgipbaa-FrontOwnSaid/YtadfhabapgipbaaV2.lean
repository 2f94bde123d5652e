/- How the clean machine's values, heap and frames stand to the model's; small laws of that.
   No condition: these are definitions and laws of them. -/
import Derived.Test.YtadfhabapgipbaaV1
import Derived.Laws.Sem
import Derived.Laws.Cells
import Derived.Laws.World
namespace Go.Proofs.Ytadfhabapgipbaa.V
open Go
set_option linter.unusedVariables false
set_option linter.unusedSimpArgs false

/-- Where a block of the clean heap lies: the block, where in it, how many cells that has, and the cells of an element. -/
structure Img where
  B : Nat
  s : Nat
  N : Nat
  k : Nat

abbrev Inj := Nat → Option Img

inductive AR (β : Inj) : Addr → Addr → Prop
  | new {b o B s N k : Nat} (h : β b = some ⟨B, s, N, k⟩) : AR β ⟨b, o, none⟩ ⟨B, s + o, none⟩
  | base {B o : Nat} : AR β ⟨B, o, some 1⟩ ⟨B, o, none⟩
  | odd {B o s : Nat} : AR β ⟨B, o, some (s + 3)⟩ ⟨B, o, some s⟩

mutual
inductive VR (β : Inj) : Value → Value → Prop
  | bool (b : Bool) : VR β (.bool b) (.bool b)
  | int (k : IntKind) (n : Int) : VR β (.int k n) (.int k n)
  | float (k : FloatKind) (b : Nat) : VR β (.float k b) (.float k b)
  | complex (k : FloatKind) (b c : Nat) : VR β (.complex k b c) (.complex k b c)
  | string (s : ByteArray) : VR β (.string s) (.string s)
  | nilFunc : VR β .nilFunc .nilFunc
  | nilIface : VR β .nilIface .nilIface
  | ptrNil : VR β (.pointer none) (.pointer none)
  | ptr {a a' : Addr} (h : AR β a a') : VR β (.pointer (some a)) (.pointer (some a'))
  | sliceNil (l c : Nat) : VR β (.slice none l c) (.slice none l c)
  | slice {a a' : Addr} (h : AR β a a') (l c : Nat) : VR β (.slice (some a) l c) (.slice (some a') l c)
  | slack {b o B s N k : Nat} (h : β b = some ⟨B, s, N, k⟩) (l : Nat) {c c' : Nat} (hc : c ≤ c') (hn : s + o + c' * k ≤ N) : VR β (.slice (some ⟨b, o, some 0⟩) l c) (.slice (some ⟨B, s + o, none⟩) l c')
  | opq (a' : Addr) (c' : Nat) : VR β (.slice (some ⟨0, 0, some 2⟩) 0 0) (.slice (some a') 0 c')
  | mapNil : VR β (.map none) (.map none)
  | map {r B : Nat} (h : β r = some ⟨B, 0, 0, 0⟩) : VR β (.map (some r)) (.map (some B))
  | chanNil : VR β (.chan none) (.chan none)
  | func (fn : Fn) {f f' c c' : Array Value} (h1 : VRs β f.toList f'.toList) (h2 : VRs β c.toList c'.toList) : VR β (.func fn f c) (.func fn f' c')
  | iface (t : TypeId) {v v' : Value} (h : VR β v v') : VR β (.iface t v) (.iface t v')
  | agg {c c' : Array Value} (h : VRs β c.toList c'.toList) : VR β (.agg c) (.agg c')
  | tuple {c c' : Array Value} (h : VRs β c.toList c'.toList) : VR β (.tuple c) (.tuple c')
inductive VRs (β : Inj) : List Value → List Value → Prop
  | nil : VRs β [] []
  | cons {v v' : Value} {l l' : List Value} (h : VR β v v') (r : VRs β l l') : VRs β (v :: l) (v' :: l')
end

def Inj.le (β β' : Inj) : Prop := ∀ b x, β b = some x → β' b = some x
theorem Inj.le_refl (β : Inj) : β.le β := fun _ _ h => h
theorem Inj.le_trans {β β' β'' : Inj} (h : β.le β') (h' : β'.le β'') : β.le β'' := fun b x e => h' b x (h b x e)

theorem AR.mono {β β' : Inj} (hb : β.le β') {a a' : Addr} (h : AR β a a') : AR β' a a' := by
  cases h with
  | new h => exact .new (hb _ _ h)
  | base => exact .base
  | odd => exact .odd

mutual
theorem VR.mono {β β' : Inj} (hb : β.le β') {v v' : Value} (h : VR β v v') : VR β' v v' :=
  match h with
  | .bool b => .bool b
  | .int k n => .int k n
  | .float k b => .float k b
  | .complex k b c => .complex k b c
  | .string s => .string s
  | .nilFunc => .nilFunc
  | .nilIface => .nilIface
  | .ptrNil => .ptrNil
  | .ptr h => .ptr (h.mono hb)
  | .sliceNil l c => .sliceNil l c
  | .slice h l c => .slice (h.mono hb) l c
  | .slack h l hc hn => .slack (hb _ _ h) l hc hn
  | .opq a c => .opq a c
  | .mapNil => .mapNil
  | .map h => .map (hb _ _ h)
  | .chanNil => .chanNil
  | .func fn h1 h2 => .func fn (h1.mono hb) (h2.mono hb)
  | .iface t h => .iface t (h.mono hb)
  | .agg h => .agg (h.mono hb)
  | .tuple h => .tuple (h.mono hb)
theorem VRs.mono {β β' : Inj} (hb : β.le β') {l l' : List Value} (h : VRs β l l') : VRs β' l l' :=
  match h with
  | .nil => .nil
  | .cons h r => .cons (h.mono hb) (r.mono hb)
end

theorem VRs.len {β : Inj} {l l' : List Value} (h : VRs β l l') : l.length = l'.length := by
  induction l generalizing l' with
  | nil => cases h; rfl
  | cons v l ih => cases h with | cons h r => simp [ih r]

theorem VRs.get {β : Inj} {l l' : List Value} (h : VRs β l l') (i : Nat) {v : Value} (hv : l[i]? = some v) : ∃ v', l'[i]? = some v' ∧ VR β v v' := by
  induction l generalizing l' i with
  | nil => simp at hv
  | cons u l ih =>
    cases h with
    | cons h r =>
      cases i with
      | zero => simp at hv; subst hv; exact ⟨_, by simp, h⟩
      | succ i => simp at hv; obtain ⟨v', h1, h2⟩ := ih r i hv; exact ⟨v', by simpa using h1, h2⟩

theorem VRs.get' {β : Inj} {l l' : List Value} (h : VRs β l l') (i : Nat) (hv : l[i]? = none) : l'[i]? = none := by
  simp at hv ⊢; rw [← h.len]; exact hv

theorem VRs.mk {β : Inj} : ∀ {l l' : List Value}, l.length = l'.length → (∀ (i : Nat) (v : Value), l[i]? = some v → ∃ v', l'[i]? = some v' ∧ VR β v v') → VRs β l l'
  | [], [], _, _ => .nil
  | [], _ :: _, h, _ => by simp at h
  | _ :: _, [], h, _ => by simp at h
  | v :: l, v' :: l', h, hg => by
    refine .cons ?_ (VRs.mk (by simpa using h) (fun i u hu => by simpa using hg (i + 1) u (by simpa using hu)))
    obtain ⟨u, h1, h2⟩ := hg 0 v (by simp)
    simp at h1; subst h1; exact h2

theorem VRs.append {β : Inj} {a a' b b' : List Value} (h : VRs β a a') (k : VRs β b b') : VRs β (a ++ b) (a' ++ b') := by
  induction a generalizing a' with
  | nil => cases h; exact k
  | cons v l ih => cases h with | cons h r => exact .cons h (ih r)

theorem VRs.take {β : Inj} {a a' : List Value} (h : VRs β a a') (n : Nat) : VRs β (a.take n) (a'.take n) := by
  induction a generalizing a' n with
  | nil => cases h; simp; exact .nil
  | cons v l ih => cases h with
    | cons h r => cases n with
      | zero => exact .nil
      | succ n => exact .cons h (ih r n)

theorem VRs.drop {β : Inj} {a a' : List Value} (h : VRs β a a') (n : Nat) : VRs β (a.drop n) (a'.drop n) := by
  induction a generalizing a' n with
  | nil => cases h; simp; exact .nil
  | cons v l ih => cases h with
    | cons h r => cases n with
      | zero => exact .cons h r
      | succ n => exact ih r n

theorem VRs.splice {β : Inj} {a a' b b' : List Value} (h : VRs β a a') (k : VRs β b b') (n : Nat) : VRs β (splice a n b) (splice a' n b') := by
  unfold V.splice; rw [k.len]; exact (h.take n).append (k.append (h.drop _))

mutual
theorem VR.plain {β : Inj} : ∀ (n : Nat) (v : Value), plainN n v = true → VR β v v
  | _, .bool b, _ => .bool b
  | _, .int k n, _ => .int k n
  | _, .float k n, _ => .float k n
  | _, .complex k n m, _ => .complex k n m
  | _, .string s, _ => .string s
  | _, .nilFunc, _ => .nilFunc
  | _, .nilIface, _ => .nilIface
  | _, .pointer none, _ => .ptrNil
  | n, .pointer (some a), h => by cases n <;> simp [plainN] at h
  | n, .slice none l c, h => .sliceNil l c
  | n, .slice (some a) l c, h => by cases n <;> simp [plainN] at h
  | _, .map none, _ => .mapNil
  | n, .map (some a), h => by cases n <;> simp [plainN] at h
  | _, .chan none, _ => .chanNil
  | n, .chan (some a), h => by cases n <;> simp [plainN] at h
  | n, .func (.func i) f c, h => by
    have h : f = #[] ∧ c = #[] := by cases n <;> simpa [plainN] using h
    obtain ⟨rfl, rfl⟩ := h
    exact .func _ .nil .nil
  | n, .func (.method i) f c, h => by cases n <;> simp [plainN] at h
  | n, .func (.methodOf i j) f c, h => by cases n <;> simp [plainN] at h
  | n, .func (.via i j k l) f c, h => by cases n <;> simp [plainN] at h
  | n, .func (.yield i) f c, h => by cases n <;> simp [plainN] at h
  | n + 1, .iface t v, h => .iface t (VR.plain n v (by simpa [plainN] using h))
  | 0, .iface t v, h => by simp [plainN] at h
  | n + 1, .agg cs, h => .agg (VRs.plain n cs.toList (by simpa [plainN] using h))
  | 0, .agg cs, h => by simp [plainN] at h
  | n + 1, .tuple cs, h => .tuple (VRs.plain n cs.toList (by simpa [plainN] using h))
  | 0, .tuple cs, h => by simp [plainN] at h
  termination_by n v => (n, 0)
theorem VRs.plain {β : Inj} : ∀ (n : Nat) (l : List Value), l.all (plainN n) = true → VRs β l l
  | _, [], _ => .nil
  | n, v :: l, h => by
    simp only [List.all_cons, Bool.and_eq_true] at h
    exact .cons (VR.plain n v h.1) (VRs.plain n l h.2)
  termination_by n l => (n, l.length + 1)
end

/-- What is plain is the same on both sides. -/
theorem plain_eq {β : Inj} : ∀ (n : Nat) {v v' : Value}, plainN n v = true → VR β v v' → v' = v := by
  intro n
  have key : ∀ (m : Nat), (∀ {v v' : Value}, plainN m v = true → VR β v v' → v' = v) →
      ∀ (l l' : List Value), l.all (plainN m) = true → VRs β l l' → l' = l := by
    intro m ih l
    induction l with
    | nil => intro l' _ h; cases h; rfl
    | cons u l ihl =>
      intro l' hp h
      cases h with
      | cons h r =>
        simp only [List.all_cons, Bool.and_eq_true] at hp
        rw [ih hp.1 h, ihl _ hp.2 r]
  induction n with
  | zero =>
    intro v v' hp h
    cases h <;> first | rfl | (simp [plainN] at hp; done) | skip
    rename_i fn f f' c c' h1 h2
    cases fn <;> simp [plainN] at hp
    obtain ⟨rfl, rfl⟩ := hp
    have e1 := h1.len; have e2 := h2.len
    simp at e1 e2
    have e1 : f' = #[] := Array.eq_empty_of_size_eq_zero e1.symm
    have e2 : c' = #[] := Array.eq_empty_of_size_eq_zero e2.symm
    rw [e1, e2]
  | succ n ih =>
    intro v v' hp h
    cases h <;> first | rfl | (simp [plainN] at hp; done) | skip
    · rename_i fn f f' c c' h1 h2
      cases fn <;> simp [plainN] at hp
      obtain ⟨rfl, rfl⟩ := hp
      have e1 := h1.len; have e2 := h2.len
      simp at e1 e2
      have e1 : f' = #[] := Array.eq_empty_of_size_eq_zero e1.symm
      have e2 : c' = #[] := Array.eq_empty_of_size_eq_zero e2.symm
      rw [e1, e2]
    · rename_i t u u' h
      rw [ih (by simpa [plainN] using hp) h]
    · rename_i c c' h
      have := key n ih _ _ (by simpa [plainN] using hp) h
      rw [Array.toList_inj.1 this]
    · rename_i c c' h
      have := key n ih _ _ (by simpa [plainN] using hp) h
      rw [Array.toList_inj.1 this]

theorem VR.undef (β : Inj) : VR β undef undef := .tuple .nil

/-! ### Heaps -/
def alive (h : Heap) (b : Nat) : Prop := ∃ o, h.get b = some o ∧ o ≠ .dead

def MRs (β : Inj) : List (Value × Value) → List MapEntry → Prop
  | [], [] => True
  | e :: es, x :: xs => (plainN 0 e.1 = true ∧ x.key = e.1) ∧ VR β e.2 x.val ∧ MRs β es xs
  | _, _ => False

structure Sim (P : Program) (Wr : Nat → Prop) (β : Inj) (h : Heap) (w : World) : Prop where
  base : ∀ b o v, h.base b o = some v → ¬ Wr b ∧ ∃ v', w.cell? ⟨b, o, none⟩ = some v' ∧ ∀ β, VR β v v'
  dom : ∀ b x, β b = some x → b < h.n
  tdom : ∀ b o, h.get b = some o → b < h.n
  live : ∀ b c T, h.get b = some (.cells c T) → ∃ (B s : Nat) (C : Array Value) (fr : Nat × Nat), β b = some ⟨B, s, C.size, P.cellsOf T⟩ ∧ w.heap[B]? = some (.cells C T fr) ∧
    (∀ j, j < C.size → (decide (fr.1 ≤ j) && decide (j < fr.2)) = false) ∧ s + c.length ≤ C.size ∧ ∀ i v, c[i]? = some v → ∃ v', C[s + i]? = some v' ∧ VR β v v'
  liveM : ∀ b es, h.get b = some (.map es) → ∃ (B : Nat) (ents : Array MapEntry) (clock : Nat), β b = some ⟨B, 0, 0, 0⟩ ∧ w.heap[B]? = some (.map ents clock) ∧ MRs β es ents.toList
  inj : ∀ b1 b2 x1 x2, alive h b1 → alive h b2 → β b1 = some x1 → β b2 = some x2 → b1 ≠ b2 → x1.B ≠ x2.B
  wr : ∀ b x, alive h b → h.lim ≤ b → β b = some x → Wr x.B
  fresh : ∀ k, w.heap.size ≤ k → Wr k
  img : ∀ b x, β b = some x → x.B < w.heap.size

/-- What has been there is as it was. -/
structure Ext (w w' : World) : Prop where
  os : w'.os = w.os
  tape : w'.tape = w.tape
  output : w'.output = w.output
  size : w.heap.size ≤ w'.heap.size
  block : ∀ k, k < w.heap.size → w'.heap[k]? = w.heap[k]?

theorem Ext.refl (w : World) : Ext w w := ⟨rfl, rfl, rfl, Nat.le_refl _, fun _ _ => rfl⟩
theorem Ext.trans {a b c : World} (h : Ext a b) (k : Ext b c) : Ext a c :=
  ⟨k.os.trans h.os, k.tape.trans h.tape, k.output.trans h.output, Nat.le_trans h.size k.size, fun i hi => (k.block i (Nat.lt_of_lt_of_le hi h.size)).trans (h.block i hi)⟩

theorem Ext.below {w w' : World} (h : Ext w w') : RowKit.Below w.heap.size w w' := ⟨h.os, h.tape, h.output, h.size, h.block⟩
theorem Ext.of_below {w w' : World} (h : RowKit.Below w.heap.size w w') : Ext w w' := ⟨h.os, h.tape, h.output, h.size, h.block⟩

structure FrameW (Wr : Nat → Prop) (w w' : World) : Prop where
  os : w'.os = w.os
  tape : w'.tape = w.tape
  output : w'.output = w.output
  size : w.heap.size ≤ w'.heap.size
  block : ∀ k, ¬ Wr k → w'.heap[k]? = w.heap[k]?

theorem FrameW.refl (Wr : Nat → Prop) (w : World) : FrameW Wr w w := ⟨rfl, rfl, rfl, Nat.le_refl _, fun _ _ => rfl⟩
theorem FrameW.trans {Wr : Nat → Prop} {a b c : World} (h : FrameW Wr a b) (k : FrameW Wr b c) : FrameW Wr a c :=
  ⟨k.os.trans h.os, k.tape.trans h.tape, k.output.trans h.output, Nat.le_trans h.size k.size, fun i hi => (k.block i hi).trans (h.block i hi)⟩

theorem lt_of_get {w : World} {k : Nat} {o : Obj} (h : w.heap[k]? = some o) : k < w.heap.size := by
  rcases Nat.lt_or_ge k w.heap.size with h' | h'
  · exact h'
  · rw [Array.getElem?_eq_none h'] at h; cases h

theorem cell_lt {w : World} {a : Addr} {v : Value} (h : w.cell? a = some v) : a.block < w.heap.size := by
  unfold World.cell? at h
  split at h
  · rename_i hb; exact lt_of_get hb
  · cases h

theorem Ext.cell {w w' : World} (h : Ext w w') {a : Addr} {v : Value} (hc : w.cell? a = some v) : w'.cell? a = some v := by
  rw [← hc]; unfold World.cell?; rw [h.block _ (cell_lt hc)]

theorem Ext.get {w w' : World} (h : Ext w w') {k : Nat} {o : Obj} (hc : w.heap[k]? = some o) : w'.heap[k]? = some o := by
  rw [h.block _ (lt_of_get hc)]; exact hc

/-- The relation goes through to a world that has more. -/
theorem Sim.ext {P : Program} {Wr : Nat → Prop} {β : Inj} {h : Heap} {w w' : World} (S : Sim P Wr β h w) (e : Ext w w') : Sim P Wr β h w' where
  base b o v hb := by obtain ⟨h1, v', h2, h3⟩ := S.base b o v hb; exact ⟨h1, v', e.cell h2, h3⟩
  dom := S.dom
  tdom := S.tdom
  live b c T hb := by
    obtain ⟨B, s, C, fr, h1, h2, h3, h4, h5⟩ := S.live b c T hb
    exact ⟨B, s, C, fr, h1, e.get h2, h3, h4, h5⟩
  liveM b es hb := by
    obtain ⟨B, ents, clock, h1, h2, h3⟩ := S.liveM b es hb
    exact ⟨B, ents, clock, h1, e.get h2, h3⟩
  inj := S.inj
  wr := S.wr
  fresh k hk := S.fresh k (Nat.le_trans e.size hk)
  img b x hb := Nat.lt_of_lt_of_le (S.img b x hb) e.size

theorem Sim.drawn {P : Program} {Wr : Nat → Prop} {β : Inj} {h : Heap} {w : World} (S : Sim P Wr β h w) (n : Nat) : Sim P Wr β h { w with drawn := n } :=
  S.ext ⟨rfl, rfl, rfl, Nat.le_refl _, fun _ _ => rfl⟩

/-- For a call that may write to nothing that is there. -/
theorem Sim.shut {P : Program} {Wr : Nat → Prop} {β : Inj} {h : Heap} {w : World} (S : Sim P Wr β h w) : Sim P (fun k => w.heap.size ≤ k) β { h with lim := h.n } w where
  base b o v hb := by obtain ⟨h1, v', h2, h3⟩ := S.base b o v hb; exact ⟨by have := cell_lt h2; simp at this; omega, v', h2, h3⟩
  dom := S.dom
  tdom := S.tdom
  live := S.live
  liveM := S.liveM
  inj := S.inj
  wr b x ha hl hb := by obtain ⟨o, ho, _⟩ := ha; have := S.tdom b o ho; simp at hl; omega
  fresh k hk := hk
  img := S.img

/-! ### Frames -/
structure FR (β : Inj) (nt : Nat) (fr : Fr) (a : Act) : Prop where
  size : a.tmps.size = nt
  defers : a.defers = []
  at_ : ∀ t, VR β (fr.at t) (a.tmps.getD t undef)

theorem FR.mono {β β' : Inj} (hb : β.le β') {nt : Nat} {fr : Fr} {a : Act} (h : FR β nt fr a) : FR β' nt fr a := ⟨h.size, h.defers, fun t => (h.at_ t).mono hb⟩

theorem Fr.at_set (fr : Fr) (d t : Nat) (v : Value) : Fr.at (fr.set d v) t = if d = t then v else fr.at t := by
  unfold Fr.at; rw [Trie.get_set]; by_cases e : d = t <;> simp [e]

theorem FR.put {β : Inj} {nt : Nat} {fr fr' : Fr} {a : Act} (h : FR β nt fr a) {d : Option Tmp} {v v' : Value} (hp : fr.put nt d v = some fr') (hv : VR β v v') : FR β nt fr' (a.put d v') := by
  cases d with
  | none => simp [Fr.put] at hp; subst hp; exact h
  | some d =>
    simp only [Fr.put] at hp
    cases hd : Nat.blt d nt with
    | false => rw [hd] at hp; simp at hp
    | true =>
      rw [hd] at hp; simp at hp; subst hp
      have hd : d < nt := by simpa [Nat.blt_eq] using hd
      refine ⟨by simp [Act.put, h.size], h.defers, fun t => ?_⟩
      rw [Fr.at_set]
      by_cases e : d = t
      · subst e
        have : (a.tmps.setIfInBounds d v').getD d Go.undef = v' := by simp [Array.getD, Array.size_setIfInBounds, h.size, hd]
        simp only [Act.put, if_true]; rw [this]; exact hv
      · have : (a.tmps.setIfInBounds d v').getD t Go.undef = a.tmps.getD t Go.undef := by
          simp only [Array.getD_eq_getD_getElem?, Array.getElem?_setIfInBounds, e, if_false]
        simp only [Act.put]; rw [if_neg e, this]; exact h.at_ t

theorem ev_ok {β : Inj} {nt : Nat} {fr : Fr} {a : Act} (h : FR β nt fr a) {x : Operand} {v : Value} (hx : ev fr x = some v) : VR β v (a.eval x) := by
  cases x with
  | tmp t => simp [ev] at hx; subst hx; exact h.at_ t
  | const c =>
    simp only [ev] at hx
    cases hc : plainN 4 c with
    | false => rw [hc] at hx; simp at hx
    | true => rw [hc] at hx; simp at hx; subst hx; exact VR.plain 4 c hc
  | global g => simp [ev] at hx
  | func f => simp [ev] at hx; subst hx; exact .func _ .nil .nil

theorem evs_ok {β : Inj} {nt : Nat} {fr : Fr} {a : Act} (h : FR β nt fr a) : ∀ {l : List Operand} {vs : List Value}, evs fr l = some vs → VRs β vs (l.map a.eval)
  | [], _, hx => by simp [evs] at hx; subst hx; exact .nil
  | x :: r, vs, hx => by
    simp only [evs] at hx
    cases h1 : ev fr x with
    | none => rw [h1] at hx; simp at hx
    | some v =>
      cases h2 : evs fr r with
      | none => rw [h1, h2] at hx; simp at hx
      | some l =>
        rw [h1, h2] at hx; simp at hx; subst hx
        exact .cons (ev_ok h h1) (evs_ok h h2)

end Go.Proofs.Ytadfhabapgipbaa.V
