/- Rows of threads: a pointer to an object of one's own, or none, and a number.
   No condition: these are laws of the clean machine. -/
import Derived.Test.YtokfjifeofpkkaaGreatVz
namespace Go.Proofs.YtokfjifeofpkkaaGreat.V
open Go
set_option linter.unusedVariables false
set_option linter.unusedSimpArgs false
structure OR (γ : Type) where
 C : Heap → Nat → List Blk → γ → Prop
 mono : ∀ {h h' b s x}, Kn h h' → C h b s x → C h' b s x
 nd : ∀ {h b s x}, C h b s x → ∀ e ∈ s, e.o ≠ .dead
structure Th (γ : Type) where
 call : Option γ
 at_ : Int
instance {γ : Type} : Inhabited (Th γ) := ⟨⟨none, 0⟩⟩
structure Rw where
 p : Option Nat
 a : Int
def ptO : Option Nat → Value
 | none => .pointer none
 | some b => .pointer (some ⟨b, 0, none⟩)
def Rw.c (r : Rw) : List Value := [ptO r.p, .int .i64 r.a]
def OO {γ : Type} (R : OR γ) (h : Heap) (p : Option Nat) (s : List Blk) (x : Option γ) : Prop := (p = none ∧ x = none ∧ s = []) ∨ ∃ b c, p = some b ∧ x = some c ∧ R.C h b s c
variable {γ : Type} {R : OR γ}
theorem OO.ext {h h' : Heap} {p : Option Nat} {s : List Blk} {x : Option γ} (o : OO R h p s x) (e : Kn h h') : OO R h' p s x := by
 rcases o with q | ⟨b, c, h1, h2, h3⟩
 ·
  exact .inl q
 ·
  exact .inr ⟨b, c, h1, h2, R.mono e h3⟩
theorem OO.nd {h : Heap} {p : Option Nat} {s : List Blk} {x : Option γ} (o : OO R h p s x) : ∀ e ∈ s, e.o ≠ .dead := by
 rcases o with ⟨_, _, q⟩ | ⟨b, c, h1, h2, h3⟩
 ·
  subst q; intro e he; cases he
 ·
  exact R.nd h3
theorem OO.get {h : Heap} {p : Option Nat} {s : List Blk} {x : Option γ} {c : γ} (o : OO R h p s x) (e : x = some c) : ∃ b, p = some b ∧ R.C h b s c := by
 rcases o with ⟨_, q, _⟩ | ⟨b, c', h1, h2, h3⟩
 ·
  rw [e] at q; cases q
 ·
  rw [e] at h2; cases h2; exact ⟨b, h1, h3⟩
theorem OO.none_ {h : Heap} : OO R h none [] none := .inl ⟨rfl, rfl, rfl⟩
theorem OO.mk {h : Heap} {b : Nat} {s : List Blk} {c : γ} (k : R.C h b s c) : OO R h (some b) s (some c) := .inr ⟨b, c, rfl, rfl, k⟩
def PO (R : OR γ) (T : TypeId) (h : Heap) (b : Nat) (s : List Blk) (xs : List (Th γ)) : Prop :=
 ∃ (rs : List Rw) (pay : List (List Blk)), s.Perm (⟨b, .cells (rs.map Rw.c).flatten T⟩ :: pay.flatten) ∧ rs.length = xs.length ∧ pay.length = xs.length ∧ xs.length ≤ 1000 ∧
  ∀ (i : Nat) (r : Rw) (p : List Blk) (x : Th γ), rs[i]? = some r → pay[i]? = some p → xs[i]? = some x → r.a = x.at_ ∧ OO R h r.p p x.call
def Rst (R : OR γ) (h : Heap) (rs : List Rw) (pr : List Blk) (xs : List (Th γ)) (n : Nat) : Prop :=
 ∃ pay : List (List Blk), pr.Perm (pay.eraseIdx n).flatten ∧ rs.length = xs.length ∧ pay.length = xs.length ∧ xs.length ≤ 1000 ∧ n < xs.length ∧
  ∀ (i : Nat) (r : Rw) (p : List Blk) (x : Th γ), i ≠ n → rs[i]? = some r → pay[i]? = some p → xs[i]? = some x → r.a = x.at_ ∧ OO R h r.p p x.call
theorem PO.ext {T : TypeId} {h h' : Heap} {b : Nat} {s : List Blk} {xs : List (Th γ)} (o : PO R T h b s xs) (e : Kn h h') : PO R T h' b s xs := by
 obtain ⟨rs, pay, h1, h2, h3, h4, h5⟩ := o
 exact ⟨rs, pay, h1, h2, h3, h4, fun i r p x a b c => ⟨(h5 i r p x a b c).1, (h5 i r p x a b c).2.ext e⟩⟩
theorem Rst.ext {h h' : Heap} {rs : List Rw} {pr : List Blk} {xs : List (Th γ)} {n : Nat} (o : Rst R h rs pr xs n) (e : Kn h h') : Rst R h' rs pr xs n := by
 obtain ⟨pay, h1, h2, h3, h4, h6, h5⟩ := o
 exact ⟨pay, h1, h2, h3, h4, h6, fun i r p x z a b c => ⟨(h5 i r p x z a b c).1, (h5 i r p x z a b c).2.ext e⟩⟩
theorem PO.nd {T : TypeId} {h : Heap} {b : Nat} {s : List Blk} {xs : List (Th γ)} (o : PO R T h b s xs) : ∀ e ∈ s, e.o ≠ .dead := by
 obtain ⟨rs, pay, h1, h2, h3, h4, h5⟩ := o
 intro e he
 rcases List.mem_cons.mp (h1.mem_iff.mp he) with q | q
 ·
  rw [q]; intro z; cases z
 ·
  obtain ⟨p, hp, hep⟩ := List.mem_flatten.mp q
  obtain ⟨i, hi⟩ := List.mem_iff_getElem?.mp hp
  have hl : i < xs.length := by rw [← h3]; exact (List.getElem?_eq_some_iff.mp hi).1
  obtain ⟨_, o⟩ := h5 i _ p _ (List.getElem?_eq_getElem (by omega : i < rs.length)) hi (List.getElem?_eq_getElem hl)
  exact o.nd e hep
section
variable {X : Cx} {st : List It} {l : L} {h0 : Heap} {rest : List (List Blk)} {T : TypeId}
end
theorem PO.close {T : TypeId} {h : Heap} {b : Nat} {rs : List Rw} {q : Option Nat} {p pr : List Blk} {xs : List (Th γ)} {n : Nat} {c : Option γ} {a : Int} (r : Rst R h rs pr xs n) (o : OO R h q p c) :
 PO R T h b (List.flatten [[⟨b, .cells ((rs.map Rw.c).set n [ptO q, .int .i64 a]).flatten T⟩], p, pr]) (xs.set n ⟨c, a⟩) := by
 obtain ⟨pay, h1, h2, h3, h4, h6, h5⟩ := r
 refine ⟨rs.set n ⟨q, a⟩, pay.set n p, ?_, by rw [List.length_set, List.length_set, h2], by rw [List.length_set, List.length_set, h3], by rw [List.length_set]; exact h4, ?_⟩
 ·
  rw [List.flatten_cons, List.flatten_cons, List.flatten_cons, List.flatten_nil, List.append_nil, List.singleton_append]
  have e1 : (rs.set n ⟨q, a⟩).map Rw.c = (rs.map Rw.c).set n [ptO q, .int .i64 a] := by rw [List.map_set]; rfl
  rw [e1]
  have e2 := (Has.split_at (l := pay) (i := n) (e := pay[n]) (List.getElem?_eq_getElem (by omega))).2 p
  have e3 := e2.flatten
  rw [List.flatten_cons] at e3
  exact ((h1.append_left p).trans e3.symm).cons _
 ·
  intro i r' p' x' hr hp hx
  by_cases e : n = i
  ·
   subst e
   rw [List.getElem?_set_self (by omega)] at hr hp hx
   cases hr; cases hp; cases hx
   exact ⟨rfl, o⟩
  ·
   rw [List.getElem?_set_ne e] at hr hp hx
   exact h5 i r' p' x' (fun z => e z.symm) hr hp hx
theorem PO.shut {T : TypeId} {h : Heap} {b : Nat} {rs : List Rw} {q : Option Nat} {p pr : List Blk} {xs : List (Th γ)} {n : Nat} {c : Option γ} {a : Int} (r : Rst R h rs pr xs n) (hw : (rs.map Rw.c)[n]? = some [ptO q, .int .i64 a]) (o : OO R h q p c) :
 PO R T h b (List.flatten [[⟨b, .cells (rs.map Rw.c).flatten T⟩], p, pr]) (xs.set n ⟨c, a⟩) := by
 have := PO.close (T := T) (b := b) (a := a) r o
 have hn : n < (rs.map Rw.c).length := (List.getElem?_eq_some_iff.mp hw).1
 have e : (rs.map Rw.c).set n [ptO q, .int .i64 a] = rs.map Rw.c := by
  apply List.ext_getElem?
  intro i
  by_cases k : n = i
  ·
   subst k; rw [List.getElem?_set_self hn, hw]
  ·
   rw [List.getElem?_set_ne k]
 rwa [e] at this
theorem PO.new {T : TypeId} {h : Heap} {b n : Nat} {cs : List Value} (hn : n ≤ 1000) (hc : cs = ((List.replicate n (⟨none, -1⟩ : Rw)).map Rw.c).flatten) : PO R T h b (List.flatten [[⟨b, .cells cs T⟩]]) (List.replicate n ⟨none, -1⟩) := by
 subst hc
 refine ⟨List.replicate n ⟨none, -1⟩, List.replicate n [], ?_, by simp, by simp, by simpa using hn, ?_⟩
 ·
  have : (List.replicate n ([] : List Blk)).flatten = [] := by
   induction n with
   | zero => rfl
   | succ n ih => rw [List.replicate_succ, List.flatten_cons, ih (by omega)]; rfl
  rw [this]; exact .refl _
 ·
  intro i r p x hr hp hx
  rw [List.getElem?_replicate] at hr hp hx
  have e1 : (⟨none, -1⟩ : Rw) = r := by split at hr <;> simp_all
  have e2 : ([] : List Blk) = p := by split at hp <;> simp_all
  have e3 : (⟨none, -1⟩ : Th γ) = x := by split at hx <;> simp_all
  subst e1 e2 e3
  exact ⟨rfl, OO.none_⟩
def hdq (s : List Blk) : Option Nat := s.head?.map (fun e => e.b)
def OQ (R : OR γ) (h : Heap) (s : List Blk) (x : Option γ) : Prop := (x = none ∧ s = []) ∨ ∃ b c, x = some c ∧ hdq s = some b ∧ R.C h b s c
theorem OQ.ext {h h' : Heap} {s : List Blk} {x : Option γ} (o : OQ R h s x) (e : Kn h h') : OQ R h' s x := by
 rcases o with q | ⟨b, c, h1, h2, h3⟩
 ·
  exact .inl q
 ·
  exact .inr ⟨b, c, h1, h2, R.mono e h3⟩
theorem OQ.nd {h : Heap} {s : List Blk} {x : Option γ} (o : OQ R h s x) : ∀ e ∈ s, e.o ≠ .dead := by
 rcases o with ⟨_, q⟩ | ⟨b, c, h1, h2, h3⟩
 ·
  subst q; intro e he; cases he
 ·
  exact R.nd h3
theorem OQ.no {h : Heap} {s : List Blk} {x : Option γ} (o : OQ R h s x) (e : x = none) : s = [] := by
 rcases o with ⟨_, q⟩ | ⟨b, c, h1, _⟩
 ·
  exact q
 ·
  rw [e] at h1; cases h1
theorem OQ.get {h : Heap} {s : List Blk} {x : Option γ} {c : γ} (o : OQ R h s x) (e : x = some c) : ∃ b, hdq s = some b ∧ R.C h b s c := by
 rcases o with ⟨q, _⟩ | ⟨b, c', h1, h2, h3⟩
 ·
  rw [e] at q; cases q
 ·
  rw [e] at h1; cases h1; exact ⟨b, h2, h3⟩
theorem OQ.case {P : Value → Bool → Prop} {h : Heap} {s : List Blk} {x : Option γ} (o : OQ R h s x) (h0 : P (.pointer none) true) (h1 : ∀ b : Nat, P (.pointer (some ⟨b, 0, none⟩)) false) : P (ptO (hdq s)) x.isNone := by
 rcases o with ⟨rfl, rfl⟩ | ⟨b, c, rfl, h2, _⟩
 ·
  exact h0
 ·
  rw [h2]; exact h1 b
end Go.Proofs.YtokfjifeofpkkaaGreat.V
