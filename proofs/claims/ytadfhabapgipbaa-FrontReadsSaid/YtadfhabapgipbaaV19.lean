/- A logic for runs of the clean machine: what is known of the frame ('l'), of the blocks that this call made ('own'), and of all else ('h0').
   No condition: these are laws of the clean machine. -/
import Derived.Test.YtadfhabapgipbaaV18
namespace Go.Proofs.Ytadfhabapgipbaa.V
open Go
set_option linter.unusedVariables false
set_option linter.unusedSimpArgs false

/-! ### What is known of a frame -/
abbrev L := List (Nat × Bool × Value)
def lk : L → Nat → Option (Bool × Value)
  | [], _ => none
  | (k, g, v) :: r, t => bif Nat.beq k t then some (g, v) else lk r t

def Agree (l : L) (fr : Fr) : Prop := ∀ t g v, lk l t = some (g, v) → fr.get t = some (bif g then v else undef)

theorem Agree.nil (fr : Fr) : Agree [] fr := fun _ _ _ h => by cases h
theorem Agree.set {l : L} {fr : Fr} (a : Agree l fr) (d : Nat) (g : Bool) (v : Value) : Agree ((d, g, v) :: l) (fr.set d (bif g then v else undef)) := by
  intro t g' v' h
  unfold lk at h
  by_cases e : d = t
  · subst e
    have : Nat.beq d d = true := Nat.beq_refl d
    rw [this] at h
    simp only [cond_true, Option.some.injEq, Prod.mk.injEq] at h
    obtain ⟨h1, h2⟩ := h
    subst h1 h2
    exact Trie.get_set_same _ _ _
  · rw [Trie.nb e] at h
    rw [Trie.get_set_ne _ e]
    exact a t g' v' h
theorem Agree.at {l : L} {fr : Fr} (a : Agree l fr) {t : Nat} {g : Bool} {v : Value} (h : lk l t = some (g, v)) : fr.at t = (bif g then v else undef) := by
  unfold Fr.at; rw [a t g v h]

/-- All that 'm' knows 'l' knows. -/
def Sub (m l : L) : Prop := ∀ t g v, lk m t = some (g, v) → lk l t = some (g, v)
theorem Sub.agree {m l : L} (s : Sub m l) {fr : Fr} (a : Agree l fr) : Agree m fr := fun t g v h => a t g v (s t g v h)
theorem Sub.nil (l : L) : Sub [] l := fun _ _ _ h => by cases h
theorem Sub.cons {m l : L} (s : Sub m l) {t : Nat} {g : Bool} {v : Value} (h : lk l t = some (g, v)) : Sub ((t, g, v) :: m) l := by
  intro t' g' v' e
  unfold lk at e
  by_cases q : t = t'
  · subst q
    have : Nat.beq t t = true := Nat.beq_refl t
    rw [this] at e
    simp only [cond_true, Option.some.injEq, Prod.mk.injEq] at e
    obtain ⟨h1, h2⟩ := e
    subst h1 h2
    exact h
  · rw [Trie.nb q] at e
    exact s t' g' v' e

/-! ### The blocks of this call -/
structure Blk where
  b : Nat
  c : List Value
  T : TypeId

def inOwn (own : List Blk) (b : Nat) : Bool := own.any (fun e => Nat.beq e.b b)
theorem inOwn_iff {own : List Blk} {b : Nat} : inOwn own b = true ↔ ∃ (j : Nat) (e : Blk), own[j]? = some e ∧ e.b = b := by
  unfold inOwn
  rw [List.any_eq_true]
  constructor
  · rintro ⟨e, he, hb⟩
    obtain ⟨j, hj⟩ := List.mem_iff_getElem?.mp he
    exact ⟨j, e, hj, Nat.eq_of_beq_eq_true hb⟩
  · rintro ⟨j, e, hj, hb⟩
    exact ⟨e, List.mem_iff_getElem?.mpr ⟨j, hj⟩, by subst hb; exact Nat.beq_refl _⟩

structure Has (own : List Blk) (h0 h : Heap) (hf : Heap) : Prop where
  ext : HExt h0 hf
  wf : Wf hf
  msk : Msk (inOwn own) hf h
  blk : ∀ (j : Nat) (e : Blk), own[j]? = some e → h.get e.b = some (.cells e.c e.T) ∧ h.lim ≤ e.b
  ne : ∀ (i j : Nat) (e e' : Blk), own[i]? = some e → own[j]? = some e' → i ≠ j → e.b ≠ e'.b

namespace Has
variable {own : List Blk} {h0 h hf : Heap}
theorem nil {h : Heap} (w : Wf h) : Has [] h h h :=
  ⟨HExt.refl h, w, ⟨rfl, rfl, rfl, fun _ e => (by cases e), fun _ _ => rfl, fun _ e => (by cases e)⟩, fun _ _ e => (by simp at e), fun _ _ _ _ e => (by simp at e)⟩
theorem hext (m : Has own h0 h hf) : HExt h0 h := by
  refine ⟨m.msk.base.trans m.ext.base, m.msk.lim.trans m.ext.lim, by rw [m.msk.n]; exact m.ext.n, fun b o hb ho => ?_, fun _ => ⟨fun b o hb => ?_, by rw [m.msk.lim, m.msk.n]; exact m.wf.lim⟩⟩
  · have h1 := m.ext.get b o hb ho
    rw [m.msk.get b (m.msk.out h1 ho)]; exact h1
  · rw [m.msk.n]
    cases e : inOwn own b with
    | true => exact m.msk.lt b e
    | false => rw [m.msk.get b e] at hb; exact m.wf.lt b o hb
theorem wfh (m : Has own h0 h hf) : Wf h := ⟨fun b o hb => by
    rw [m.msk.n]
    cases e : inOwn own b with
    | true => exact m.msk.lt b e
    | false => rw [m.msk.get b e] at hb; exact m.wf.lt b o hb, by rw [m.msk.lim, m.msk.n]; exact m.wf.lim⟩
theorem alloc (m : Has own h0 h hf) (c : List Value) (T : TypeId) : Has (own ++ [⟨h.n, c, T⟩]) h0 (h.alloc (.cells c T)) (hf.alloc .dead) := by
  have hn := m.msk.n
  have io : ∀ b, inOwn (own ++ [⟨h.n, c, T⟩]) b = (inOwn own b || Nat.beq h.n b) := by
    intro b; unfold inOwn; rw [List.any_append]; simp only [List.any_cons, List.any_nil, Bool.or_false]
  refine ⟨m.ext.trans (HExt.alloc m.wf _), m.wf.alloc _, ⟨m.msk.base, m.msk.lim, by show h.n + 1 = hf.n + 1; rw [hn], ?_, ?_, ?_⟩, ?_, ?_⟩
  · intro b hb
    rw [get_alloc]
    by_cases e : hf.n = b
    · rw [if_pos e]
    · rw [if_neg e]
      rw [io, Bool.or_eq_true] at hb
      rcases hb with q | q
      · exact m.msk.dead b q
      · exact absurd (Nat.eq_of_beq_eq_true q) (by rw [hn]; exact e)
  · intro b hb
    rw [io, Bool.or_eq_false_iff] at hb
    have e : ¬ h.n = b := by intro e; subst e; have := hb.2; rw [Nat.beq_refl] at this; cases this
    rw [get_alloc, if_neg e, get_alloc, if_neg (by rw [← hn]; exact e)]
    exact m.msk.get b hb.1
  · intro b hb
    rw [io, Bool.or_eq_true] at hb
    show b < hf.n + 1
    rcases hb with q | q
    · exact Nat.lt_succ_of_lt (m.msk.lt b q)
    · have := Nat.eq_of_beq_eq_true q; omega
  · intro j e he
    rw [List.getElem?_append] at he
    split at he
    · have ho := m.blk j e he
      have lt := m.msk.lt e.b (inOwn_iff.mpr ⟨j, e, he, rfl⟩)
      exact ⟨by rw [get_alloc, if_neg (by omega)]; exact ho.1, ho.2⟩
    · rename_i hj
      have he' : e = ⟨h.n, c, T⟩ := by
        cases q : j - own.length with
        | zero => rw [q] at he; simpa using he.symm
        | succ k => rw [q] at he; simp at he
      subst he'
      refine ⟨by rw [get_alloc, if_pos rfl], ?_⟩
      show h.lim ≤ h.n
      rw [m.msk.lim, hn]; exact m.wf.lim
  · intro i j e e' hi hj hij
    rw [List.getElem?_append] at hi hj
    have last : ∀ {j : Nat} {e : Blk}, [(⟨h.n, c, T⟩ : Blk)][j - own.length]? = some e → ¬ j < own.length → j = own.length ∧ e.b = h.n := by
      intro j e he hl
      cases q : j - own.length with
      | zero => rw [q] at he; refine ⟨by omega, ?_⟩; have : e = ⟨h.n, c, T⟩ := by simpa using he.symm
                rw [this]
      | succ k => rw [q] at he; simp at he
    split at hi
    · split at hj
      · exact m.ne i j e e' hi hj hij
      · rename_i hl
        have lt := m.msk.lt e.b (inOwn_iff.mpr ⟨i, e, hi, rfl⟩)
        have := (last hj hl).2
        omega
    · rename_i hl
      split at hj
      · have lt := m.msk.lt e'.b (inOwn_iff.mpr ⟨j, e', hj, rfl⟩)
        have := (last hi hl).2
        omega
      · rename_i hl'
        have := (last hi hl).1; have := (last hj hl').1
        omega
theorem store (m : Has own h0 h hf) {i b : Nat} {c : List Value} {T : TypeId} (hi : own[i]? = some ⟨b, c, T⟩) (c' : List Value) (T' : TypeId) :
    Has (own.set i ⟨b, c', T'⟩) h0 (h.set b (.cells c' T')) hf := by
  have hl : i < own.length := by
    rcases Nat.lt_or_ge i own.length with q | q
    · exact q
    · rw [List.getElem?_eq_none q] at hi; cases hi
  have io : inOwn (own.set i ⟨b, c', T'⟩) = inOwn own := by
    funext x
    apply Bool.eq_iff_iff.mpr
    rw [inOwn_iff, inOwn_iff]
    constructor
    · rintro ⟨j, e, he, hb⟩
      rw [List.getElem?_set] at he
      split at he
      · rename_i q; subst q
        try rw [if_pos hl] at he
        cases he
        exact ⟨i, _, hi, hb⟩
      · exact ⟨j, e, he, hb⟩
    · rintro ⟨j, e, he, hb⟩
      by_cases q : i = j
      · subst q
        rw [hi] at he; cases he
        exact ⟨i, ⟨b, c', T'⟩, by rw [List.getElem?_set, if_pos rfl, if_pos hl], hb⟩
      · exact ⟨j, e, by rw [List.getElem?_set, if_neg q]; exact he, hb⟩
  have hb : inOwn own b = true := inOwn_iff.mpr ⟨i, _, hi, rfl⟩
  refine ⟨m.ext, m.wf, ?_, ?_, ?_⟩
  · rw [io]
    exact ⟨m.msk.base, m.msk.lim, m.msk.n, m.msk.dead, fun x hx => by
      rw [get_set, if_neg (by intro e; subst e; rw [hb] at hx; cases hx)]; exact m.msk.get x hx, m.msk.lt⟩
  · intro j e he
    rw [List.getElem?_set] at he
    split at he
    · rename_i q; subst q
      try rw [if_pos hl] at he
      cases he
      exact ⟨by rw [get_set, if_pos rfl], (m.blk i _ hi).2⟩
    · rename_i q
      have ho := m.blk j e he
      have := m.ne i j _ e hi he q
      exact ⟨by rw [get_set, if_neg this]; exact ho.1, ho.2⟩
  · intro j k e e' hj hk hjk
    rw [List.getElem?_set] at hj hk
    split at hj
    · rename_i q; subst q
      try rw [if_pos hl] at hj
      cases hj
      split at hk
      · rename_i q; exact absurd q hjk
      · exact m.ne i k ⟨b, c, T⟩ e' hi hk hjk
    · split at hk
      · rename_i q q'; subst q'
        try rw [if_pos hl] at hk
        cases hk
        exact m.ne j i e ⟨b, c, T⟩ hj hi hjk
      · exact m.ne j k e e' hj hk hjk
/-- A block that is given up: it stays as it is. -/
theorem keep (m : Has own h0 h hf) {h0' hf' h' : Heap} (k : Kept (inOwn own) h h') (mm : Msk (inOwn own) hf' h') (e : HExt h0' hf') (w : Wf hf') (hl : h'.lim = h.lim) : Has own h0' h' hf' :=
  ⟨e, w, mm, fun j x hx => by
    have ho := m.blk j x hx
    rw [k x.b (inOwn_iff.mpr ⟨j, x, hx, rfl⟩), hl]; exact ho, m.ne⟩
end Has

/-! ### The stack -/
inductive It where
  | ops (r : Array Oper) (q : Bool) (os : List Oper)
  | code (c : Code)
  | endb (id : Nat)
  | endl (body : Code)

def stepIt (E : Env) (nt n : Nat) : It → Fr → Heap → Option (Ex × Fr × Heap)
  | .ops r q os, fr, h => match (bif q then runQuiet E nt (run E n) r os fr h else runOps E nt (run E n) r os fr h) with
    | some (fr', h') => some (.normal, fr', h')
    | none => none
  | .code c, fr, h => evalC E nt (run E n) n c fr h
  | .endb _, fr, h => some (.normal, fr, h)
  | .endl body, fr, h => iter (fun fr h => evalC E nt (run E n) n body fr h) n fr h

def exec (E : Env) (nt n : Nat) : List It → Ex → Fr → Heap → Option (Fr × Heap)
  | [], .exit _, _, _ => none
  | [], .normal, fr, h => some (fr, h)
  | [], .ret, fr, h => some (fr, h)
  | it :: st, .normal, fr, h => match stepIt E nt n it fr h with
    | some (x, fr', h') => exec E nt n st x fr' h'
    | none => none
  | _ :: st, .ret, fr, h => exec E nt n st .ret fr h
  | .endb id :: st, .exit i, fr, h => if i = id then exec E nt n st .normal fr h else exec E nt n st (.exit i) fr h
  | .ops _ _ _ :: st, .exit i, fr, h => exec E nt n st (.exit i) fr h
  | .code _ :: st, .exit i, fr, h => exec E nt n st (.exit i) fr h
  | .endl _ :: st, .exit i, fr, h => exec E nt n st (.exit i) fr h

theorem stepIt_le {E : Env} {nt n m : Nat} (hm : n ≤ m) {it : It} {fr : Fr} {h : Heap} {r : Ex × Fr × Heap} (e : stepIt E nt n it fr h = some r) : stepIt E nt m it fr h = some r := by
  cases it with
  | ops a q os =>
    unfold stepIt at e ⊢
    cases q with
    | true =>
      simp only [cond_true] at e ⊢
      split at e
      · rename_i e1; rw [runQuiet_le (run_le hm) _ e1]; exact e
      · cases e
    | false =>
      simp only [cond_false] at e ⊢
      split at e
      · rename_i e1; rw [runOps_le (run_le hm) _ e1]; exact e
      · cases e
  | code c => exact evalC_le (run_le hm) hm c _ _ _ e
  | endb id => exact e
  | endl body => exact iter_le (fun _ _ _ q => evalC_le (run_le hm) hm body _ _ _ q) hm _ _ _ e

theorem exec_le {E : Env} {nt n m : Nat} (hm : n ≤ m) : ∀ (st : List It) {x : Ex} {fr : Fr} {h : Heap} {r : Fr × Heap}, exec E nt n st x fr h = some r → exec E nt m st x fr h = some r := by
  intro st
  induction st with
  | nil => intro x fr h r e; cases x <;> exact e
  | cons it st ih =>
    intro x fr h r e
    cases x with
    | normal =>
      unfold exec at e ⊢
      split at e
      · rename_i e1; rw [stepIt_le hm e1]; exact ih e
      · cases e
    | ret => cases it <;> exact ih e
    | exit i =>
      cases it with
      | endb id =>
        unfold exec at e ⊢
        split at e
        · rename_i q; rw [if_pos q]; exact ih e
        · rename_i q; rw [if_neg q]; exact ih e
      | ops a q os => exact ih e
      | code c => exact ih e
      | endl b => exact ih e

theorem exec_ret (E : Env) (nt n : Nat) (fr : Fr) (h : Heap) : ∀ st : List It, exec E nt n st .ret fr h = some (fr, h) := by
  intro st
  induction st with
  | nil => rfl
  | cons it st ih => cases it <;> exact ih

def popTo (id : Nat) : List It → Option (List It)
  | [] => none
  | .endb i :: st => if id = i then some st else popTo id st
  | .ops _ _ _ :: st => popTo id st
  | .code _ :: st => popTo id st
  | .endl _ :: st => popTo id st
theorem exec_pop {E : Env} {nt n : Nat} {fr : Fr} {h : Heap} {id : Nat} : ∀ {st st' : List It}, popTo id st = some st' → exec E nt n st (.exit id) fr h = exec E nt n st' .normal fr h := by
  intro st
  induction st with
  | nil => intro st' e; cases e
  | cons it st ih =>
    intro st' e
    cases it with
    | endb i =>
      unfold popTo at e
      conv => lhs; unfold exec
      split at e
      · rename_i q; rw [if_pos q]; cases e; rfl
      · rename_i q; rw [if_neg q]; exact ih e
    | ops a q os => exact ih e
    | code c => exact ih e
    | endl b => exact ih e

structure Cx where
  E : Env
  nt : Nat
  res : List ResultVar
  Q : Value → Heap → Prop

/-- It comes to an end, as asked. -/
def Dn (X : Cx) (st : List It) (fr : Fr) (h : Heap) : Prop :=
  ∃ n fr' h' vs, exec X.E X.nt n st .normal fr h = some (fr', h') ∧ resultsV X.E fr' h' X.res = some vs ∧ X.Q (packV vs) h'

def Goes (X : Cx) (st : List It) (l : L) (own : List Blk) (h0 : Heap) : Prop :=
  ∀ fr h hf, Agree l fr → Has own h0 h hf → Dn X st fr h

theorem Goes.weak {X : Cx} {st : List It} {l m : L} {own : List Blk} {h0 : Heap} (g : Goes X st m own h0) (s : Sub m l) : Goes X st l own h0 :=
  fun fr h hf a m => g fr h hf (s.agree a) m
theorem Has.back {own : List Blk} {h0 h1 h hf : Heap} (m : Has own h1 h hf) (e : HExt h0 h1) : Has own h0 h hf := ⟨e.trans m.ext, m.wf, m.msk, m.blk, m.ne⟩
/-- What is known of an earlier heap is known. -/
theorem Goes.fwd {X : Cx} {st : List It} {l : L} {own : List Blk} {h0 : Heap} (g : ∀ h1, HExt h0 h1 → Wf h1 → Goes X st l own h1) : Goes X st l own h0 :=
  fun fr h hf a m => g hf m.ext m.wf fr h hf a ⟨HExt.refl hf, m.wf, m.msk, m.blk, m.ne⟩

section
variable {X : Cx} {st : List It} {l : L} {own : List Blk} {h0 : Heap}

theorem Dn.of_eq {st' : List It} {fr fr1 : Fr} {h h1 : Heap} (e : ∀ n, exec X.E X.nt n st .normal fr h = exec X.E X.nt n st' .normal fr1 h1) (d : Dn X st' fr1 h1) : Dn X st fr h := by
  obtain ⟨n, fr', h', vs, e1, e2, e3⟩ := d
  exact ⟨n, fr', h', vs, by rw [e]; exact e1, e2, e3⟩

theorem go_seq {a b : Code} (g : Goes X (.code a :: .code b :: st) l own h0) : Goes X (.code (.seq a b) :: st) l own h0 := by
  intro fr h hf ag hs
  refine Dn.of_eq (fun n => ?_) (g fr h hf ag hs)
  unfold exec
  show (match evalC X.E X.nt (run X.E n) n (.seq a b) fr h with | some (x, fr', h') => exec X.E X.nt n st x fr' h' | none => none) = (match evalC X.E X.nt (run X.E n) n a fr h with | some (x, fr', h') => exec X.E X.nt n (.code b :: st) x fr' h' | none => none)
  cases e : evalC X.E X.nt (run X.E n) n a fr h with
  | none => simp only [evalC, e]
  | some r =>
    obtain ⟨x, fr', h'⟩ := r
    cases x with
    | normal => simp only [evalC, e]; rfl
    | exit i => simp only [evalC, e]; rfl
    | ret => simp only [evalC, e]; rfl
theorem go_region {id : Nat} {ops : Array Oper} {q : Bool} (g : Goes X (.ops ops q ops.toList :: st) l own h0) : Goes X (.code (.region id ops q) :: st) l own h0 := by
  intro fr h hf ag hs
  refine Dn.of_eq (fun n => ?_) (g fr h hf ag hs)
  simp only [exec, stepIt, evalC]
  rfl
theorem go_nil {r : Array Oper} {q : Bool} (g : Goes X st l own h0) : Goes X (.ops r q [] :: st) l own h0 := by
  intro fr h hf ag hs
  refine Dn.of_eq (fun n => ?_) (g fr h hf ag hs)
  cases q <;> simp only [exec, stepIt, runOps, runQuiet, cond_true, cond_false]
theorem go_skip (g : Goes X st l own h0) : Goes X (.code .skip :: st) l own h0 := by
  intro fr h hf ag hs
  refine Dn.of_eq (fun n => ?_) (g fr h hf ag hs)
  simp only [exec, stepIt, evalC]
theorem go_label {i : Nat} (g : Goes X st l own h0) : Goes X (.code (.label i) :: st) l own h0 := by
  intro fr h hf ag hs
  refine Dn.of_eq (fun n => ?_) (g fr h hf ag hs)
  simp only [exec, stepIt, evalC]
theorem go_scope {c : Code} (g : Goes X (.code c :: st) l own h0) : Goes X (.code (.scope c) :: st) l own h0 := by
  intro fr h hf ag hs
  refine Dn.of_eq (fun n => ?_) (g fr h hf ag hs)
  simp only [exec, stepIt, evalC]
theorem go_endb {i : Nat} (g : Goes X st l own h0) : Goes X (.endb i :: st) l own h0 := by
  intro fr h hf ag hs
  refine Dn.of_eq (fun n => ?_) (g fr h hf ag hs)
  simp only [exec, stepIt]
theorem go_block {i : Nat} {c : Code} (g : Goes X (.code c :: .endb i :: st) l own h0) : Goes X (.code (.block i c) :: st) l own h0 := by
  intro fr h hf ag hs
  refine Dn.of_eq (fun n => ?_) (g fr h hf ag hs)
  unfold exec
  show (match evalC X.E X.nt (run X.E n) n (.block i c) fr h with | some (x, fr', h') => exec X.E X.nt n st x fr' h' | none => none) = (match evalC X.E X.nt (run X.E n) n c fr h with | some (x, fr', h') => exec X.E X.nt n (.endb i :: st) x fr' h' | none => none)
  cases e : evalC X.E X.nt (run X.E n) n c fr h with
  | none => simp only [evalC, e]
  | some r =>
    obtain ⟨x, fr', h'⟩ := r
    cases x with
    | normal => simp only [evalC, e]; rfl
    | exit j =>
      simp only [evalC, e]
      by_cases q : j = i
      · rw [if_pos q]; simp only [exec, if_pos q]
      · rw [if_neg q]; simp only [exec, if_neg q]
    | ret => simp only [evalC, e]; rfl
theorem go_exit {i : Nat} {st' : List It} (hp : popTo i st = some st') (g : Goes X st' l own h0) : Goes X (.code (.exit i) :: st) l own h0 := by
  intro fr h hf ag hs
  refine Dn.of_eq (fun n => ?_) (g fr h hf ag hs)
  simp only [exec, stepIt, evalC, exec_pop hp]
theorem go_unroll {body : Code} (g : Goes X (.code body :: .endl body :: st) l own h0) : Goes X (.endl body :: st) l own h0 := by
  intro fr h hf ag hs
  obtain ⟨n, fr', h', vs, e1, e2, e3⟩ := g fr h hf ag hs
  refine ⟨n + 1, fr', h', vs, ?_, e2, e3⟩
  unfold exec at e1 ⊢
  split at e1
  · rename_i x fr1 h1 es
    have es' : evalC X.E X.nt (run X.E n) n body fr h = some (x, fr1, h1) := es
    have es2 := evalC_le (run_le (Nat.le_succ n)) (Nat.le_succ n) body _ _ _ es'
    cases x with
    | normal =>
      unfold exec at e1
      split at e1
      · rename_i x2 fr2 h2 et
        have et' : iter (fun fr h => evalC X.E X.nt (run X.E n) n body fr h) n fr1 h1 = some (x2, fr2, h2) := et
        have et2 := iter_le (fun _ _ _ q => evalC_le (run_le (Nat.le_succ n)) (Nat.le_succ n) body _ _ _ q) (Nat.le_refl n) _ _ _ et'
        have : stepIt X.E X.nt (n + 1) (.endl body) fr h = some (x2, fr2, h2) := by
          show iter (fun fr h => evalC X.E X.nt (run X.E (n + 1)) (n + 1) body fr h) (n + 1) fr h = _
          unfold iter
          rw [es2]; exact et2
        rw [this]
        exact exec_le (Nat.le_succ n) st e1
      · cases e1
    | exit i =>
      have : stepIt X.E X.nt (n + 1) (.endl body) fr h = some (.exit i, fr1, h1) := by
        show iter (fun fr h => evalC X.E X.nt (run X.E (n + 1)) (n + 1) body fr h) (n + 1) fr h = _
        unfold iter
        rw [es2]
      rw [this]
      exact exec_le (Nat.le_succ n) st e1
    | ret =>
      have : stepIt X.E X.nt (n + 1) (.endl body) fr h = some (.ret, fr1, h1) := by
        show iter (fun fr h => evalC X.E X.nt (run X.E (n + 1)) (n + 1) body fr h) (n + 1) fr h = _
        unfold iter
        rw [es2]
      rw [this]
      exact exec_le (Nat.le_succ n) st e1
  · cases e1
theorem go_loop1 {body : Code} (g : Goes X (.endl body :: st) l own h0) : Goes X (.code (.loop body) :: st) l own h0 := by
  intro fr h hf ag hs
  refine Dn.of_eq (fun n => ?_) (g fr h hf ag hs)
  simp only [exec, stepIt, evalC]

/-- A loop, with what stays true of it, and what falls. -/
theorem go_loop {α : Type} {body : Code} (I : α → Prop) (m : α → Nat) (sl : α → L) (so : α → List Blk) (sh : α → Heap)
    (step : ∀ a, I a → (∀ a', I a' → m a' < m a → Goes X (.endl body :: st) (sl a') (so a') (sh a')) → Goes X (.code body :: .endl body :: st) (sl a) (so a) (sh a))
    (a : α) (ha : I a) (hl : Sub (sl a) l) (ho : so a = own) (hh : sh a = h0) : Goes X (.code (.loop body) :: st) l own h0 := by
  subst ho hh
  apply go_loop1
  refine Goes.weak ?_ hl
  have all : ∀ k a, m a ≤ k → I a → Goes X (.endl body :: st) (sl a) (so a) (sh a) := by
    intro k
    induction k with
    | zero => intro a hm hi; exact go_unroll (step a hi (fun a' _ hlt => by omega))
    | succ k ih => intro a hm hi; exact go_unroll (step a hi (fun a' hi' hlt => ih a' (by omega) hi'))
  exact all _ a (Nat.le_refl _) ha

/-! ### Operands -/
def OP (l : L) (g : Bool) (x : Operand) (v : Value) : Prop := ∀ fr, Agree l fr → g = true → ev fr x = some v
theorem ot {g : Bool} {t : Nat} {v : Value} (h : lk l t = some (true, v)) : OP l g (.tmp t) v := fun fr a _ => by
  simp only [ev, a.at h, cond_true]
theorem og {g g' : Bool} {t : Nat} {v : Value} (h : lk l t = some (g', v)) (hg : g = true → g' = true) : OP l g (.tmp t) v := fun fr a q => by
  simp only [ev, a.at h, hg q, cond_true]
theorem oc {g : Bool} {v : Value} (h : plainN 4 v = true) : OP l g (.const v) v := fun fr a _ => by
  simp only [ev, h, cond_true]
theorem of {g : Bool} {f : FuncId} : OP l g (.func f) (.func (.func f) #[] #[]) := fun fr a _ => rfl

def OPs (l : L) (g : Bool) (xs : List Operand) (vs : List Value) : Prop := ∀ fr, Agree l fr → g = true → evs fr xs = some vs
theorem os0 {g : Bool} : OPs l g [] [] := fun _ _ _ => rfl
theorem os1 {g : Bool} {x : Operand} {v : Value} {xs : List Operand} {vs : List Value} (h : OP l g x v) (k : OPs l g xs vs) : OPs l g (x :: xs) (v :: vs) := fun fr a q => by
  simp only [evs, h fr a q, k fr a q]

def OPp (l : L) (g : Bool) (xs : List (Nat × Operand)) (vs : List (Nat × Value)) : Prop := ∀ fr, Agree l fr → g = true → evParts fr xs = some vs
theorem op0 {g : Bool} : OPp l g [] [] := fun _ _ _ => rfl
theorem op1 {g : Bool} {i : Nat} {x : Operand} {v : Value} {xs : List (Nat × Operand)} {vs : List (Nat × Value)} (h : OP l g x v) (k : OPp l g xs vs) : OPp l g ((i, x) :: xs) ((i, v) :: vs) := fun fr a q => by
  simp only [evParts, h fr a q, k fr a q]

/-! ### Operations that only read -/
def RV (E : Env) (l : L) (own : List Blk) (h0 : Heap) (g : Bool) (op : Op) (v : Value) : Prop :=
  ∀ fr h hf, Agree l fr → Has own h0 h hf → g = true → readV E fr h op = some v

theorem step_read {r : Array Oper} {q : Bool} {o : Oper} {os : List Oper} {d : Nat} (hd : o.dst = some d) (hn : Nat.blt d X.nt = true) {g : Bool} {v : Value}
    (hw : ∀ fr, Agree l fr → wantedV r fr o = g) (hr : RV X.E l own h0 g o.op v) (k : Goes X (.ops r q os :: st) ((d, g, v) :: l) own h0) : Goes X (.ops r q (o :: os) :: st) l own h0 := by
  intro fr h hf ag hs
  refine Dn.of_eq (fun n => ?_) (k _ h hf (ag.set d g v) hs)
  simp only [exec, stepIt]
  cases q with
  | true =>
    simp only [cond_true, runQuiet, hw fr ag]
    cases g with
    | true => simp only [cond_true, quietV, hr fr h hf ag hs rfl, Fr.put, hd, hn]
    | false => simp only [cond_false, Fr.put, hd, hn, cond_true]
  | false =>
    simp only [cond_false, runOps, hw fr ag]
    cases g with
    | true => simp only [cond_true, opV, hr fr h hf ag hs rfl, Fr.put, hd, hn]
    | false => simp only [cond_false, Fr.put, hd, hn, cond_true]

theorem gr {r : Array Oper} {q : Bool} {os : List Oper} {d : Nat} {op : Op} {ty : TypeId} {pos : String} {aft} (hn : Nat.blt d X.nt = true) {v : Value}
    (hr : RV X.E l own h0 true op v) (k : Goes X (.ops r q os :: st) ((d, true, v) :: l) own h0) : Goes X (.ops r q (⟨some d, op, ty, pos, aft, none⟩ :: os) :: st) l own h0 :=
  step_read rfl hn (fun fr _ => rfl) hr k

theorem wanted_t {r : Array Oper} {o oj : Oper} {j dj : Nat} {w : Bool} (hg : o.guard = some (j, w)) (hj : r[j]? = some oj) (hd : oj.dst = some dj) {g b : Bool} (hl : lk l dj = some (g, .bool b)) :
    ∀ fr, Agree l fr → wantedV r fr o = (g && (b == w)) := by
  intro fr a
  simp only [wantedV, hg, hj, hd, a.at hl]
  cases g
  · rfl
  · rfl

theorem grt {r : Array Oper} {q : Bool} {os : List Oper} {d j dj : Nat} {op : Op} {ty : TypeId} {pos : String} {aft} (hn : Nat.blt d X.nt = true) {oj : Oper} (hj : r[j]? = some oj) (hd : oj.dst = some dj)
    {b : Bool} (hl : lk l dj = some (true, .bool b)) {v : Value}
    (hr : RV X.E l own h0 b op v) (k : Goes X (.ops r q os :: st) ((d, b, v) :: l) own h0) : Goes X (.ops r q (⟨some d, op, ty, pos, aft, some (j, true)⟩ :: os) :: st) l own h0 :=
  step_read rfl hn (fun fr a => by rw [wanted_t rfl hj hd hl fr a]; cases b <;> rfl) hr k
theorem grf {r : Array Oper} {q : Bool} {os : List Oper} {d j dj : Nat} {op : Op} {ty : TypeId} {pos : String} {aft} (hn : Nat.blt d X.nt = true) {oj : Oper} (hj : r[j]? = some oj) (hd : oj.dst = some dj)
    {b : Bool} (hl : lk l dj = some (true, .bool b)) {v : Value}
    (hr : RV X.E l own h0 (!b) op v) (k : Goes X (.ops r q os :: st) ((d, !b, v) :: l) own h0) : Goes X (.ops r q (⟨some d, op, ty, pos, aft, some (j, false)⟩ :: os) :: st) l own h0 :=
  step_read rfl hn (fun fr a => by rw [wanted_t rfl hj hd hl fr a]; cases b <;> rfl) hr k
theorem grt' {r : Array Oper} {q : Bool} {os : List Oper} {d j dj : Nat} {op : Op} {ty : TypeId} {pos : String} {aft} (hn : Nat.blt d X.nt = true) {oj : Oper} (hj : r[j]? = some oj) (hd : oj.dst = some dj)
    {g b : Bool} (hl : lk l dj = some (g, .bool b)) {v : Value}
    (hr : RV X.E l own h0 (g && b) op v) (k : Goes X (.ops r q os :: st) ((d, g && b, v) :: l) own h0) : Goes X (.ops r q (⟨some d, op, ty, pos, aft, some (j, true)⟩ :: os) :: st) l own h0 :=
  step_read rfl hn (fun fr a => by rw [wanted_t rfl hj hd hl fr a]; cases b <;> cases g <;> rfl) hr k
theorem grf' {r : Array Oper} {q : Bool} {os : List Oper} {d j dj : Nat} {op : Op} {ty : TypeId} {pos : String} {aft} (hn : Nat.blt d X.nt = true) {oj : Oper} (hj : r[j]? = some oj) (hd : oj.dst = some dj)
    {g b : Bool} (hl : lk l dj = some (g, .bool b)) {v : Value}
    (hr : RV X.E l own h0 (g && !b) op v) (k : Goes X (.ops r q os :: st) ((d, g && !b, v) :: l) own h0) : Goes X (.ops r q (⟨some d, op, ty, pos, aft, some (j, false)⟩ :: os) :: st) l own h0 :=
  step_read rfl hn (fun fr a => by rw [wanted_t rfl hj hd hl fr a]; cases b <;> cases g <;> rfl) hr k

end
end Go.Proofs.Ytadfhabapgipbaa.V
