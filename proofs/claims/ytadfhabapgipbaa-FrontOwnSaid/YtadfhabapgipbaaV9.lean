/- How the relation of V2 goes on when memory is made, written, let go.
   No condition beside those that each law states. -/
import Derived.Test.YtadfhabapgipbaaV8
namespace Go.Proofs.Ytadfhabapgipbaa.V
open Go
set_option linter.unusedVariables false
set_option linter.unusedSimpArgs false

def upd (β : Inj) (n : Nat) (x : Img) : Inj := fun b => if b = n then some x else β b

theorem le_upd {β : Inj} {n : Nat} (x : Img) (h : ∀ b y, β b = some y → b < n) : β.le (upd β n x) := by
  intro b y hb
  have := h b y hb
  unfold upd; rw [if_neg (by omega)]; exact hb

/-- The injection grows at new numbers alone. -/
structure Up (n : Nat) (β β' : Inj) : Prop where
  le : β.le β'
  keep : ∀ b, b < n → β' b = β b
theorem Up.refl (n : Nat) (β : Inj) : Up n β β := ⟨Inj.le_refl β, fun _ _ => rfl⟩
theorem Up.trans {n m : Nat} {β β1 β2 : Inj} (h : Up n β β1) (hn : n ≤ m) (k : Up m β1 β2) : Up n β β2 :=
  ⟨Inj.le_trans h.le k.le, fun b hb => (k.keep b (Nat.lt_of_lt_of_le hb hn)).trans (h.keep b hb)⟩
theorem up_upd {β : Inj} {n : Nat} (x : Img) (h : ∀ b y, β b = some y → b < n) : Up n β (upd β n x) :=
  ⟨le_upd x h, fun b hb => by unfold upd; rw [if_neg (by omega)]⟩
structure Lm (h h' : Heap) : Prop where
  lim : h'.lim = h.lim
  n : h.n ≤ h'.n
theorem Lm.refl (h : Heap) : Lm h h := ⟨rfl, Nat.le_refl _⟩
theorem Lm.trans {a b c : Heap} (k : Lm b c) (h : Lm a b) : Lm a c := ⟨k.lim.trans h.lim, Nat.le_trans h.n k.n⟩
theorem Lm.of {h h' : Heap} (a : h'.lim = h.lim) (b : h'.n = h.n) : Lm h h' := ⟨a, by rw [b]; exact Nat.le_refl _⟩
theorem Lm.alloc (h : Heap) (o : O) : Lm h (h.alloc o) := ⟨rfl, Nat.le_succ _⟩

theorem get_alloc (h : Heap) (o : O) (b : Nat) : (h.alloc o).get b = if h.n = b then some o else h.get b := by
  unfold Heap.alloc Heap.get; simp only; exact Trie.get_set _ _ _ _
theorem get_set (h : Heap) (n : Nat) (o : O) (b : Nat) : (h.set n o).get b = if n = b then some o else h.get b := by
  unfold Heap.set Heap.get; simp only; exact Trie.get_set _ _ _ _

theorem MRs.mono {β β' : Inj} (hb : β.le β') : ∀ {es : List (Value × Value)} {l : List MapEntry}, MRs β es l → MRs β' es l
  | [], [], _ => trivial
  | [], _ :: _, h => h.elim
  | _ :: _, [], h => h.elim
  | e :: es, x :: l, h => ⟨h.1, h.2.1.mono hb, h.2.2.mono hb⟩

def Unfrozen (n : Nat) (fr : Nat × Nat) : Prop := ∀ j, j < n → (decide (fr.1 ≤ j) && decide (j < fr.2)) = false

theorem Unfrozen.none (n : Nat) : Unfrozen n (0, 0) := by intro j _; simp

/-- What must be so of a block that is told. -/
def OOK (P : Program) (β : Inj) (x : Img) (w : World) : O → Prop
  | .cells c T => ∃ (C : Array Value) (fr : Nat × Nat), x.N = C.size ∧ x.k = P.cellsOf T ∧ w.heap[x.B]? = some (.cells C T fr) ∧ Unfrozen C.size fr ∧ x.s + c.length ≤ C.size ∧
      ∀ (i : Nat) (v : Value), c[i]? = some v → ∃ v', C[x.s + i]? = some v' ∧ VR β v v'
  | .map es => x = ⟨x.B, 0, 0, 0⟩ ∧ ∃ (ents : Array MapEntry) (clock : Nat), w.heap[x.B]? = some (.map ents clock) ∧ MRs β es ents.toList
  | .dead => True

theorem OOK.mono {P : Program} {β β' : Inj} (hb : β.le β') {x : Img} {w : World} : ∀ {o : O}, OOK P β x w o → OOK P β' x w o
  | .cells c T, ⟨C, fr, h1, h2, h3, h4, h5, h6⟩ => ⟨C, fr, h1, h2, h3, h4, h5, fun i v hv => by obtain ⟨v', e1, e2⟩ := h6 i v hv; exact ⟨v', e1, e2.mono hb⟩⟩
  | .map es, ⟨h1, ents, clock, h2, h3⟩ => ⟨h1, ents, clock, h2, h3.mono hb⟩
  | .dead, _ => trivial

theorem OOK.world {P : Program} {β : Inj} {x : Img} {w w' : World} (he : w'.heap[x.B]? = w.heap[x.B]?) : ∀ {o : O}, OOK P β x w o → OOK P β x w' o
  | .cells c T, ⟨C, fr, h1, h2, h3, h4, h5, h6⟩ => ⟨C, fr, h1, h2, by rw [he]; exact h3, h4, h5, h6⟩
  | .map es, ⟨h1, ents, clock, h2, h3⟩ => ⟨h1, ents, clock, by rw [he]; exact h2, h3⟩
  | .dead, _ => trivial

theorem Sim.get {P : Program} {Wr : Nat → Prop} {β : Inj} {h : Heap} {w : World} (S : Sim P Wr β h w) {b : Nat} {o : O} (hb : h.get b = some o) (hd : o ≠ .dead) : ∃ x, β b = some x ∧ OOK P β x w o := by
  cases o with
  | cells c T =>
    obtain ⟨B, s, C, fr, h1, h2, h3, h4, h5⟩ := S.live b c T hb
    exact ⟨_, h1, C, fr, rfl, rfl, h2, h3, h4, h5⟩
  | map es =>
    obtain ⟨B, ents, clock, h1, h2, h3⟩ := S.liveM b es hb
    exact ⟨_, h1, rfl, ents, clock, h2, h3⟩
  | dead => exact (hd rfl).elim

/-- The relation, by its parts. -/
theorem Sim.mk' {P : Program} {Wr : Nat → Prop} {β : Inj} {h : Heap} {w : World}
    (base : ∀ b o v, h.base b o = some v → ¬ Wr b ∧ ∃ v', w.cell? ⟨b, o, none⟩ = some v' ∧ ∀ β, VR β v v')
    (dom : ∀ b x, β b = some x → b < h.n) (tdom : ∀ b o, h.get b = some o → b < h.n)
    (get : ∀ b o, h.get b = some o → o ≠ .dead → ∃ x, β b = some x ∧ OOK P β x w o)
    (inj : ∀ b1 b2 x1 x2, alive h b1 → alive h b2 → β b1 = some x1 → β b2 = some x2 → b1 ≠ b2 → x1.B ≠ x2.B)
    (wr : ∀ b x, alive h b → h.lim ≤ b → β b = some x → Wr x.B) (fresh : ∀ k, w.heap.size ≤ k → Wr k) (img : ∀ b x, β b = some x → x.B < w.heap.size) : Sim P Wr β h w where
  base := base
  dom := dom
  tdom := tdom
  live b c T hb := by
    obtain ⟨⟨B, s, N, k⟩, h1, C, fr, e1, e2, h2, h3, h4, h5⟩ := get b _ hb (by simp)
    simp only at e1 e2; subst e1; subst e2
    exact ⟨B, s, C, fr, h1, h2, h3, h4, h5⟩
  liveM b es hb := by
    obtain ⟨x, h1, e, ents, clock, h2, h3⟩ := get b _ hb (by simp)
    rw [e] at h1
    exact ⟨x.B, ents, clock, h1, h2, h3⟩
  inj := inj
  wr := wr
  fresh := fresh
  img := img

theorem alive_set {h : Heap} {b : Nat} {o : O} {b' : Nat} (ha : alive (h.set b o) b') : (b' = b ∧ o ≠ .dead) ∨ (b' ≠ b ∧ alive h b') := by
  obtain ⟨o', h1, h2⟩ := ha
  rw [get_set] at h1
  by_cases e : b = b'
  · rw [if_pos e] at h1; cases h1; exact .inl ⟨e.symm, h2⟩
  · rw [if_neg e] at h1; exact .inr ⟨fun h => e h.symm, o', h1, h2⟩

theorem alive_alloc {h : Heap} {o : O} {b' : Nat} (ha : alive (h.alloc o) b') : (b' = h.n ∧ o ≠ .dead) ∨ (b' ≠ h.n ∧ alive h b') := by
  obtain ⟨o', h1, h2⟩ := ha
  rw [get_alloc] at h1
  by_cases e : h.n = b'
  · rw [if_pos e] at h1; cases h1; exact .inl ⟨e.symm, h2⟩
  · rw [if_neg e] at h1; exact .inr ⟨fun h => e h.symm, o', h1, h2⟩

/-- A block is told anew. -/
theorem Sim.setO {P : Program} {Wr : Nat → Prop} {β : Inj} {h : Heap} {w : World} (S : Sim P Wr β h w) {b : Nat} {o : O} {x : Img} (hx : β b = some x)
    (hfree : ∀ b' x', alive h b' → b' ≠ b → β b' = some x' → x'.B ≠ x.B) (hwr : o ≠ .dead → h.lim ≤ b → Wr x.B) (ho : OOK P β x w o) : Sim P Wr β (h.set b o) w := by
  refine Sim.mk' S.base S.dom ?_ ?_ ?_ ?_ S.fresh S.img
  · intro b' o' hb
    rw [get_set] at hb
    by_cases e : b = b'
    · subst e; exact S.dom b x hx
    · rw [if_neg e] at hb; exact S.tdom b' o' hb
  · intro b' o' hb hd
    rw [get_set] at hb
    by_cases e : b = b'
    · subst e; rw [if_pos rfl] at hb; cases hb; exact ⟨x, hx, ho⟩
    · rw [if_neg e] at hb; exact S.get hb hd
  · intro b1 b2 x1 x2 a1 a2 h1 h2 hne
    rcases alive_set a1 with ⟨rfl, _⟩ | ⟨n1, a0⟩
    · rcases alive_set a2 with ⟨rfl, _⟩ | ⟨n2, a2⟩
      · exact (hne rfl).elim
      · rw [hx] at h1; cases h1; exact fun e => hfree b2 x2 a2 n2 h2 e.symm
    · rcases alive_set a2 with ⟨e2, _⟩ | ⟨n2, a2⟩
      · subst e2; rw [hx] at h2; cases h2; exact hfree b1 x1 a0 n1 h1
      · exact S.inj b1 b2 x1 x2 a0 a2 h1 h2 hne
  · intro b' x' ha hl hb
    rcases alive_set ha with ⟨rfl, hd⟩ | ⟨n1, a1⟩
    · rw [hx] at hb; cases hb; exact hwr hd hl
    · exact S.wr b' x' a1 hl hb

theorem Sim.kill {P : Program} {Wr : Nat → Prop} {β : Inj} {h : Heap} {w : World} (S : Sim P Wr β h w) {b : Nat} (ha : alive h b) : Sim P Wr β (h.set b .dead) w := by
  obtain ⟨o, h1, h2⟩ := ha
  obtain ⟨x, hx, _⟩ := S.get h1 h2
  exact S.setO hx (fun b' x' a' hne hb => S.inj b' b x' x a' ⟨o, h1, h2⟩ hb hx hne) (fun h => (h rfl).elim) trivial

/-- What nobody tells of may be written. -/
theorem Sim.scribble {P : Program} {Wr : Nat → Prop} {β : Inj} {h : Heap} {w w' : World} (S : Sim P Wr β h w) {B : Nat} (hfree : ∀ b' x', alive h b' → β b' = some x' → x'.B ≠ B) (hwr : Wr B)
    (hs : w'.heap.size = w.heap.size) (he : ∀ k, k ≠ B → w'.heap[k]? = w.heap[k]?) : Sim P Wr β h w' := by
  refine Sim.mk' ?_ S.dom S.tdom ?_ S.inj S.wr (by rw [hs]; exact S.fresh) (by rw [hs]; exact S.img)
  · intro b o v hb
    obtain ⟨h1, v', h2, h3⟩ := S.base b o v hb
    refine ⟨h1, v', ?_, h3⟩
    have : b ≠ B := fun e => h1 (e ▸ hwr)
    rw [← h2]; unfold World.cell?; rw [he b this]
  · intro b o hb hd
    obtain ⟨x, hx, ho⟩ := S.get hb hd
    exact ⟨x, hx, ho.world (he _ (hfree b x ⟨o, hb, hd⟩ hx))⟩

/-- A new block, at a place that nobody tells of. -/
theorem Sim.addO {P : Program} {Wr : Nat → Prop} {β : Inj} {h : Heap} {w : World} (S : Sim P Wr β h w) {o : O} {x : Img}
    (hfree : ∀ b' x', alive h b' → β b' = some x' → x'.B ≠ x.B) (hwr : Wr x.B) (hi : x.B < w.heap.size) (ho : OOK P (upd β h.n x) x w o) : Sim P Wr (upd β h.n x) (h.alloc o) w ∧ Up h.n β (upd β h.n x) := by
  have hle := le_upd x S.dom
  have old : ∀ b y, b ≠ h.n → upd β h.n x b = some y → β b = some y := fun b y hb e => by unfold upd at e; rwa [if_neg hb] at e
  have new : ∀ y, upd β h.n x h.n = some y → y = x := fun y e => by unfold upd at e; rw [if_pos rfl] at e; cases e; rfl
  refine ⟨Sim.mk' S.base ?_ ?_ ?_ ?_ ?_ S.fresh ?_, up_upd x S.dom⟩
  · intro b y hb
    show b < h.n + 1
    by_cases e : b = h.n
    · omega
    · have := S.dom b y (old b y e hb); omega
  · intro b o' hb
    show b < h.n + 1
    rw [get_alloc] at hb
    by_cases e : h.n = b
    · omega
    · rw [if_neg e] at hb; have := S.tdom b o' hb; omega
  · intro b o' hb hd
    rw [get_alloc] at hb
    by_cases e : h.n = b
    · subst e; rw [if_pos rfl] at hb; cases hb; exact ⟨x, by simp [upd], ho⟩
    · rw [if_neg e] at hb
      obtain ⟨y, hy, hyo⟩ := S.get hb hd
      exact ⟨y, hle b y hy, hyo.mono hle⟩
  · intro b1 b2 x1 x2 a1 a2 h1 h2 hne
    rcases alive_alloc a1 with ⟨rfl, _⟩ | ⟨n1, a1⟩
    · rcases alive_alloc a2 with ⟨rfl, _⟩ | ⟨n2, a2⟩
      · exact (hne rfl).elim
      · rw [new _ h1]; exact fun e => hfree b2 x2 a2 (old _ _ n2 h2) e.symm
    · rcases alive_alloc a2 with ⟨rfl, _⟩ | ⟨n2, a2⟩
      · rw [new _ h2]; exact hfree b1 x1 a1 (old _ _ n1 h1)
      · exact S.inj b1 b2 x1 x2 a1 a2 (old _ _ n1 h1) (old _ _ n2 h2) hne
  · intro b y ha hl hb
    rcases alive_alloc ha with ⟨rfl, hd⟩ | ⟨n1, a1⟩
    · rw [new _ hb]; exact hwr
    · exact S.wr b y a1 hl (old _ _ n1 hb)
  · intro b y hb
    by_cases e : b = h.n
    · subst e; rw [new _ hb]; exact hi
    · exact S.img b y (old b y e hb)

theorem Ext.push {w w' : World} {o : Obj} (hw : w'.heap = w.heap.push o) (h1 : w'.os = w.os) (h2 : w'.tape = w.tape) (h3 : w'.output = w.output) : Ext w w' :=
  ⟨h1, h2, h3, by rw [hw]; simp, fun k hk => by rw [hw, Array.getElem?_push, if_neg (by omega)]⟩

theorem Ext.frame {P : Program} {Wr : Nat → Prop} {β : Inj} {h : Heap} {w w' : World} (S : Sim P Wr β h w) (e : Ext w w') : FrameW Wr w w' :=
  ⟨e.os, e.tape, e.output, e.size, fun k hk => e.block k (Nat.lt_of_not_le fun h => hk (S.fresh k h))⟩

/-- A new block of cells. -/
theorem Sim.alloc {P : Program} {Wr : Nat → Prop} {β : Inj} {h : Heap} {w : World} (S : Sim P Wr β h w) {c : List Value} {C : Array Value} {T : TypeId} (hle : c.length ≤ C.size)
    (hc : ∀ (i : Nat) (v : Value), c[i]? = some v → ∃ v', C[i]? = some v' ∧ VR β v v') {w' : World} (hw : w'.heap = w.heap.push (.cells C T)) (h1 : w'.os = w.os) (h2 : w'.tape = w.tape) (h3 : w'.output = w.output) :
    ∃ β', Up h.n β β' ∧ β' h.n = some ⟨w.heap.size, 0, C.size, P.cellsOf T⟩ ∧ Sim P Wr β' (h.alloc (.cells c T)) w' ∧ FrameW Wr w w' := by
  have e := Ext.push hw h1 h2 h3
  have hg : w'.heap[w.heap.size]? = some (.cells C T (0, 0)) := by rw [hw]; simp
  have hle' := le_upd (⟨w.heap.size, 0, C.size, P.cellsOf T⟩ : Img) S.dom
  obtain ⟨g1, g2⟩ := (S.ext e).addO (o := .cells c T) (x := ⟨w.heap.size, 0, C.size, P.cellsOf T⟩)
    (fun b' x' _ hb => by have := S.img b' x' hb; simp; omega) (S.fresh _ (Nat.le_refl _)) (by rw [hw]; simp)
    ⟨C, (0, 0), rfl, rfl, hg, Unfrozen.none _, by simpa using hle, fun i v hv => by obtain ⟨v', a1, a2⟩ := hc i v hv; exact ⟨v', by simpa using a1, a2.mono hle'⟩⟩
  exact ⟨_, g2, by simp [upd], g1, Ext.frame S e⟩

theorem Sim.allocM {P : Program} {Wr : Nat → Prop} {β : Inj} {h : Heap} {w : World} (S : Sim P Wr β h w) {w' : World} (hw : w'.heap = w.heap.push (.map #[] 0)) (h1 : w'.os = w.os) (h2 : w'.tape = w.tape) (h3 : w'.output = w.output) :
    ∃ β', Up h.n β β' ∧ β' h.n = some ⟨w.heap.size, 0, 0, 0⟩ ∧ Sim P Wr β' (h.alloc (.map [])) w' ∧ FrameW Wr w w' := by
  have e := Ext.push hw h1 h2 h3
  have hg : w'.heap[w.heap.size]? = some (.map #[] 0) := by rw [hw]; simp
  obtain ⟨g1, g2⟩ := (S.ext e).addO (o := .map []) (x := ⟨w.heap.size, 0, 0, 0⟩)
    (fun b' x' _ hb => by have := S.img b' x' hb; simp; omega) (S.fresh _ (Nat.le_refl _)) (by rw [hw]; simp) ⟨rfl, #[], 0, hg, trivial⟩
  exact ⟨_, g2, by simp [upd], g1, Ext.frame S e⟩

/-- A live block's world, changed at its place. -/
theorem Sim.write {P : Program} {Wr : Nat → Prop} {β : Inj} {h : Heap} {w w' : World} (S : Sim P Wr β h w) {b : Nat} (ha : alive h b) (hl : h.lim ≤ b) {x : Img} (hx : β b = some x) {o : O}
    (hs : w'.heap.size = w.heap.size) (he : ∀ k, k ≠ x.B → w'.heap[k]? = w.heap[k]?) (h1 : w'.os = w.os) (h2 : w'.tape = w.tape) (h3 : w'.output = w.output) (ho : OOK P β x w' o) :
    Sim P Wr β (h.set b o) w' ∧ FrameW Wr w w' := by
  have hW := S.wr b x ha hl hx
  have S1 := S.kill ha
  have free : ∀ b' x', alive (h.set b .dead) b' → β b' = some x' → x'.B ≠ x.B := by
    intro b' x' a' hb'
    rcases alive_set a' with ⟨_, hd⟩ | ⟨n1, a1⟩
    · exact (hd rfl).elim
    · exact S.inj b' b x' x a1 ha hb' hx n1
  have S2 := S1.scribble free hW hs he
  have S3 := S2.setO (b := b) (o := o) hx (fun b' x' a' _ hb' => free b' x' a' hb') (fun _ _ => hW) ho
  refine ⟨?_, ⟨h1, h2, h3, by omega, fun k hk => he k (fun e => hk (e ▸ hW))⟩⟩
  have eg : ∀ b', ((h.set b .dead).set b o).get b' = (h.set b o).get b' := by intro b'; simp only [get_set]; split <;> rfl
  refine Sim.mk' S3.base S3.dom (fun b' o' hb => S3.tdom b' o' (by rw [eg]; exact hb)) (fun b' o' hb hd => S3.get (by rw [eg]; exact hb) hd) ?_ ?_ S3.fresh S3.img
  · intro b1 b2 x1 x2 a1 a2
    exact S3.inj b1 b2 x1 x2 (by obtain ⟨o', q1, q2⟩ := a1; exact ⟨o', by rw [eg]; exact q1, q2⟩) (by obtain ⟨o', q1, q2⟩ := a2; exact ⟨o', by rw [eg]; exact q1, q2⟩)
  · intro b' x' a' hl' hb'
    exact S3.wr b' x' (by obtain ⟨o', q1, q2⟩ := a'; exact ⟨o', by rw [eg]; exact q1, q2⟩) hl' hb'

/-! ### Stores in the model -/
theorem cellOk_one {β : Inj} {v v' : Value} (h : VR β v v') (hc : cellOk v = true) : v'.oneCell' = true := by
  cases h <;> first | rfl | (simp [cellOk] at hc)

theorem setCell_eq {w : World} {B o : Nat} {C : Array Value} {T : TypeId} {fr : Nat × Nat} (hg : w.heap[B]? = some (.cells C T fr)) (v : Value) :
    w.setCell ⟨B, o, none⟩ v = { w with heap := w.heap.setIfInBounds B (.cells (C.setIfInBounds o v) T fr) } := by
  unfold World.setCell
  congr 1
  apply Array.ext_getElem?
  intro i
  rw [Array.getElem?_modify, Array.getElem?_setIfInBounds]
  simp only
  by_cases e : B = i
  · subst e; rw [if_pos rfl, if_pos rfl, hg]; simp [lt_of_get hg]
  · rw [if_neg e, if_neg e]

theorem store_run {P : Program} {B o : Nat} {T : TypeId} {fr : Nat × Nat} : ∀ (vs : List Value) (i : Nat) (C : Array Value) (w : World), w.heap[B]? = some (.cells C T fr) → Unfrozen C.size fr → o + i + vs.length ≤ C.size → (∀ v ∈ vs, v.oneCell' = true) →
    ∃ C' : Array Value, (Go.storeCells ⟨B, o, none⟩ vs i).run P w = .ok () { w with heap := w.heap.setIfInBounds B (.cells C' T fr) } ∧ C'.toList = splice C.toList (o + i) vs
  | [], i, C, w, hg, hf, hs, h1 => by
    refine ⟨C, ?_, by simp [splice]⟩
    simp only [Go.storeCells, Sem.run_pure]
    congr 1
    have : w.heap.setIfInBounds B (.cells C T fr) = w.heap := by
      apply Array.ext_getElem?; intro j
      rw [Array.getElem?_setIfInBounds]
      split
      · rename_i e; subst e; rw [hg]; simp [lt_of_get hg]
      · rfl
    rw [this]
  | v :: vs, i, C, w, hg, hf, hs, h1 => by
    simp only [List.length_cons] at hs
    have hlt : o + i < C.size := by omega
    have e1 : w.cell? ⟨B, o + i, none⟩ = some C[o + i] := by rw [cell_of hg]; simp [hlt]
    have e2 : w.frozen? ⟨B, o + i, none⟩ = false := by unfold World.frozen?; rw [hg]; exact hf _ hlt
    have g1 : (Go.store (Addr.add ⟨B, o, none⟩ i) v).run P w = .ok () (w.setCell ⟨B, o + i, none⟩ v) := by
      rw [Addr.add_none, run_store _ _ _ _ _ (h1 v (by simp)), e1]; simp [e2]
    rw [setCell_eq hg] at g1
    have hg' : ({ w with heap := w.heap.setIfInBounds B (.cells (C.setIfInBounds (o + i) v) T fr) } : World).heap[B]? = some (.cells (C.setIfInBounds (o + i) v) T fr) := by
      simp [lt_of_get hg]
    obtain ⟨C', r1, r2⟩ := store_run (P := P) (o := o) vs (i + 1) (C.setIfInBounds (o + i) v) _ hg' (by simpa using hf) (by simp; omega) (fun u hu => h1 u (by simp [hu]))
    refine ⟨C', ?_, ?_⟩
    · simp only [Go.storeCells, Sem.run_bind, g1, Result.andThen_ok, r1]
      first | rfl | (congr 2; done) | (congr 2; simp)
    · rw [r2]
      apply List.ext_getElem?
      intro j
      rw [splice_get _ _ _ (by simp; omega), splice_get _ _ _ (by simp; omega)]
      simp only [Array.toList_setIfInBounds, List.getElem?_set, List.length_cons, Array.length_toList]
      by_cases e : j = o + i
      · subst e
        rw [if_neg (by omega), if_pos rfl, if_pos hlt, if_pos (by omega)]; simp
      · by_cases q : o + (i + 1) ≤ j ∧ j < o + (i + 1) + vs.length
        · rw [if_pos q, if_pos (by omega), show j - (o + i) = (j - (o + (i + 1))) + 1 by omega]; simp
        · rw [if_neg q, if_neg (by omega), if_neg (by omega)]

/-- A store of cells. -/
theorem storeCells_ok {P : Program} {Wr : Nat → Prop} {β : Inj} {h h' : Heap} {w : World} (S : Sim P Wr β h w) {a a' : Addr} (hA : AR β a a') {vs vs' : List Value} (hv : VRs β vs vs') (hs : storeCells h a vs = some h') :
    ∃ w', (Go.storeCells a' vs').run P w = .ok () w' ∧ Sim P Wr β h' w' ∧ FrameW Wr w w' ∧ h'.lim = h.lim ∧ h'.n = h.n := by
  cases hA with
  | @new b o B s N k hb =>
    simp only [storeCells] at hs
    split at hs
    · rename_i c T hg
      obtain ⟨hq, hs⟩ := bif_some hs
      simp at hs; subst hs
      rw [Bool.and_eq_true, Bool.and_eq_true] at hq
      obtain ⟨⟨hlim, hoff⟩, hone⟩ := hq
      have hlim : h.lim ≤ b := Nat.le_of_ble_eq_true hlim
      have hoff : o + vs.length ≤ c.length := Nat.le_of_ble_eq_true hoff
      obtain ⟨B', s', C, fr, g1, g2, g3, g4, g5⟩ := S.live _ _ _ hg
      rw [hb] at g1; cases g1
      have hone' : ∀ v ∈ vs', v.oneCell' = true := by
        intro v hm
        obtain ⟨i, hi⟩ := List.mem_iff_getElem?.1 hm
        rcases hu : vs[i]? with _ | u
        · rw [hv.get' i hu] at hi; cases hi
        · obtain ⟨v', q1, q2⟩ := hv.get i hu
          rw [hi] at q1; cases q1
          exact cellOk_one q2 (List.all_eq_true.1 hone u (List.mem_iff_getElem?.2 ⟨i, hu⟩))
      have el := hv.len
      obtain ⟨C', r1, r2⟩ := store_run (P := P) (o := s + o) vs' 0 C w g2 g3 (by omega) hone'
      have esz : C'.size = C.size := by
        have := congrArg List.length r2
        rw [splice_len _ _ _ (by simp; omega)] at this; simpa using this
      refine ⟨_, r1, ?_⟩
      have alv : alive h b := ⟨_, hg, by simp⟩
      have hcont : ∀ (i : Nat) (v : Value), (splice c o vs)[i]? = some v → ∃ v', C'[s + i]? = some v' ∧ VR β v v' := by
        intro i v hi
        rw [splice_get _ _ _ hoff] at hi
        rw [← Array.getElem?_toList, r2, splice_get _ _ _ (by simp; omega)]
        by_cases q : o ≤ i ∧ i < o + vs.length
        · rw [if_pos q] at hi
          rw [if_pos (by omega)]
          obtain ⟨v', u1, u2⟩ := hv.get _ hi
          refine ⟨v', ?_, u2⟩
          rw [← u1]; congr 1; omega
        · rw [if_neg q] at hi
          rw [if_neg (by omega)]
          obtain ⟨v', u1, u2⟩ := g5 i v hi
          exact ⟨v', by rw [Array.getElem?_toList]; exact u1, u2⟩
      have hO : OOK P β ⟨B, s, C.size, P.cellsOf T⟩ { w with heap := w.heap.setIfInBounds B (.cells C' T fr) } (.cells (splice c o vs) T) :=
        ⟨C', fr, esz.symm, rfl, by simp [lt_of_get g2], by rw [esz]; exact g3, by rw [splice_len _ _ _ hoff, esz]; exact g4, hcont⟩
      obtain ⟨q1, q2⟩ := S.write (w' := { w with heap := w.heap.setIfInBounds B (.cells C' T fr) }) alv hlim hb (o := .cells (splice c o vs) T) (by simp) (fun k hk => by simp only; rw [Array.getElem?_setIfInBounds, if_neg (fun e => hk e.symm)]) rfl rfl rfl hO
      exact ⟨q1, q2, rfl, rfl⟩
    · cases hs
  | base => simp [storeCells] at hs
  | odd => simp [storeCells] at hs

end Go.Proofs.Ytadfhabapgipbaa.V
