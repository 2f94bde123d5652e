/- Words for proofs over the clean machine: what a slice has, when a run comes to an end, how a heap goes on.
   No condition: these are definitions and laws of them. -/
import Derived.Test.YtadfhabapgipbaaV15
namespace Go.Proofs.Ytadfhabapgipbaa.V
open Go
set_option linter.unusedVariables false
set_option linter.unusedSimpArgs false

/-- A slice's elements, each of k cells. -/
def SL (h : Heap) (k : Nat) (a : Option Addr) (rows : List (List Value)) : Prop :=
  ∀ (i : Nat) (r : List Value), rows[i]? = some r → r.length = k ∧ ∃ a0 a', a = some a0 ∧ elemAddr a0 (i * k) = some a' ∧ cellsAt h a' k = some r

/-- Every block lies below the count. -/
structure Wf (h : Heap) : Prop where
  lt : ∀ b o, h.get b = some o → b < h.n
  lim : h.lim ≤ h.n

/-- What was known is known (what is dead is nobody's). -/
structure Kn (h h' : Heap) : Prop where
  base : h'.base = h.base
  get : ∀ b o, h.get b = some o → o ≠ .dead → h'.get b = some o

/-- What was there stays. -/
structure HExt (h h' : Heap) : Prop where
  base : h'.base = h.base
  lim : h'.lim = h.lim
  n : h.n ≤ h'.n
  get : ∀ b o, h.get b = some o → o ≠ .dead → h'.get b = some o
  wf : Wf h → Wf h'

theorem HExt.kn {h h' : Heap} (e : HExt h h') : Kn h h' := ⟨e.base, e.get⟩
theorem Kn.refl (h : Heap) : Kn h h := ⟨rfl, fun _ _ h _ => h⟩
theorem Kn.trans {a b c : Heap} (h : Kn a b) (k : Kn b c) : Kn a c := ⟨k.base.trans h.base, fun x o hx ho => k.get x o (h.get x o hx ho) ho⟩
theorem Kn.limN {a b : Heap} (h : Kn a b) (n : Nat) : Kn a { b with lim := n } := ⟨h.base, h.get⟩
theorem Wf.limN {a : Heap} (h : Wf a) : Wf { a with lim := a.n } := ⟨h.lt, Nat.le_refl _⟩
theorem HExt.refl (h : Heap) : HExt h h := ⟨rfl, rfl, Nat.le_refl _, fun _ _ h _ => h, id⟩
theorem HExt.trans {a b c : Heap} (h : HExt a b) (k : HExt b c) : HExt a c :=
  ⟨k.base.trans h.base, k.lim.trans h.lim, Nat.le_trans h.n k.n, fun x o hx ho => k.get x o (h.get x o hx ho) ho, fun w => k.wf (h.wf w)⟩

theorem Wf.alloc {h : Heap} (hw : Wf h) (o : O) : Wf (h.alloc o) := by
  refine ⟨fun b o' hb => ?_, Nat.le_succ_of_le hw.lim⟩
  rw [get_alloc] at hb
  show b < h.n + 1
  split at hb
  · omega
  · have := hw.lt b o' hb; omega
theorem HExt.alloc {h : Heap} (hw : Wf h) (o : O) : HExt h (h.alloc o) :=
  ⟨rfl, rfl, Nat.le_succ _, fun b o' hb _ => by rw [get_alloc, if_neg (by have := hw.lt b o' hb; omega)]; exact hb, fun w => w.alloc o⟩

/-- A run that changes nothing that was there. -/
def Ev (E : Env) (f : FuncId) (args : List Value) (h : Heap) (Q : Value → Heap → Prop) : Prop :=
  ∃ n v h', run E n f args h = some (v, h') ∧ HExt h h' ∧ Q v h'

theorem Kn.baseCells {h h' : Heap} (e : Kn h h') (b : Nat) : ∀ (n o : Nat), baseCells h' b o n = V.baseCells h b o n
  | 0, o => rfl
  | n + 1, o => by simp only [V.baseCells, e.base, Kn.baseCells e b n]

theorem Kn.cellsAt {h h' : Heap} (e : Kn h h') {a : Addr} {n : Nat} {l : List Value} (hc : cellsAt h a n = some l) : V.cellsAt h' a n = some l := by
  unfold V.cellsAt at hc ⊢
  split at hc
  · split at hc
    · rename_i c T hg; rw [e.get _ _ hg (by intro q; cases q)]; exact hc
    · cases hc
  · rw [e.baseCells]; exact hc
  · cases hc

theorem Kn.cellAt {h h' : Heap} (e : Kn h h') {a : Addr} {v : Value} (hc : cellAt h a = some v) : V.cellAt h' a = some v := by
  unfold V.cellAt at hc ⊢
  split at hc
  · split at hc
    · rename_i c T hg; rw [e.get _ _ hg (by intro q; cases q)]; exact hc
    · cases hc
  · rw [e.base]; exact hc
  · cases hc

theorem SL.ext {h h' : Heap} (e : Kn h h') {k : Nat} {a : Option Addr} {rows : List (List Value)} (s : SL h k a rows) : SL h' k a rows := by
  intro i r hr
  obtain ⟨h0, a0, a', h1, h2, h3⟩ := s i r hr
  exact ⟨h0, a0, a', h1, h2, e.cellsAt h3⟩

/-! ### A run, step by step -/
theorem run_step {E : Env} {n : Nat} {f : FuncId} {args : List Value} {h : Heap} (hp : E.prim f = none) {fn : Func} (hf : E.P.funcs[f]? = some fn) {c : Code} (hc : fn.body = some c) :
    run E (n + 1) f args h = (bif Nat.ble args.length fn.ntmps then
      match evalC E fn.ntmps (run E n) n c (initF args 0 .nil) h with
      | some (.exit _, _, _) => none
      | some (_, fr, h') => match resultsV E fr h' fn.results.toList with
        | some l => some (packV l, h')
        | none => none
      | none => none
    else none) := by
  simp only [run, hp, hf, hc]
  rfl

@[simp] theorem at_nil (t : Nat) : Fr.at (.nil : Fr) t = undef := rfl
theorem put_lt {nt : Nat} {fr : Fr} {d : Nat} {v : Value} (h : Nat.blt d nt = true) : Fr.put nt fr (some d) v = some (fr.set d v) := by simp only [Fr.put, h, cond_true]

end Go.Proofs.Ytadfhabapgipbaa.V
