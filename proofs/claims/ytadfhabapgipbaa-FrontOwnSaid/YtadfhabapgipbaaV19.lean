/- A logic for runs of the clean machine: what is known of the frame ('l'), of the blocks that this call made ('own'), and of all else ('h0').
   No condition: these are laws of the clean machine. -/
import Derived.Test.YtadfhabapgipbaaV18
namespace Go.Proofs.Ytadfhabapgipbaa.V
open Go
set_option linter.unusedVariables false
set_option linter.unusedSimpArgs false

/-! ### What is known of a frame -/
abbrev L := List (Nat × Bool × Value)
def lk : L → Nat → Option (Bool × Value)
  | [], _ => none
  | (k, g, v) :: r, t => bif Nat.beq k t then some (g, v) else lk r t

def Agree (l : L) (fr : Fr) : Prop := ∀ t g v, lk l t = some (g, v) → fr.get t = some (bif g then v else undef)

theorem Agree.nil (fr : Fr) : Agree [] fr := fun _ _ _ h => by cases h
theorem Agree.set {l : L} {fr : Fr} (a : Agree l fr) (d : Nat) (g : Bool) (v : Value) : Agree ((d, g, v) :: l) (fr.set d (bif g then v else undef)) := by
  intro t g' v' h
  unfold lk at h
  by_cases e : d = t
  · subst e
    have : Nat.beq d d = true := Nat.beq_refl d
    rw [this] at h
    simp only [cond_true, Option.some.injEq, Prod.mk.injEq] at h
    obtain ⟨h1, h2⟩ := h
    subst h1 h2
    exact Trie.get_set_same _ _ _
  · rw [Trie.nb e] at h
    rw [Trie.get_set_ne _ e]
    exact a t g' v' h
theorem Agree.at {l : L} {fr : Fr} (a : Agree l fr) {t : Nat} {g : Bool} {v : Value} (h : lk l t = some (g, v)) : fr.at t = (bif g then v else undef) := by
  unfold Fr.at; rw [a t g v h]

/-- All that 'm' knows 'l' knows. -/
def Sub (m l : L) : Prop := ∀ t g v, lk m t = some (g, v) → lk l t = some (g, v)
theorem Sub.agree {m l : L} (s : Sub m l) {fr : Fr} (a : Agree l fr) : Agree m fr := fun t g v h => a t g v (s t g v h)
theorem Sub.nil (l : L) : Sub [] l := fun _ _ _ h => by cases h
theorem Sub.cons {m l : L} (s : Sub m l) {t : Nat} {g : Bool} {v : Value} (h : lk l t = some (g, v)) : Sub ((t, g, v) :: m) l := by
  intro t' g' v' e
  unfold lk at e
  by_cases q : t = t'
  · subst q
    have : Nat.beq t t = true := Nat.beq_refl t
    rw [this] at e
    simp only [cond_true, Option.some.injEq, Prod.mk.injEq] at e
    obtain ⟨h1, h2⟩ := e
    subst h1 h2
    exact h
  · rw [Trie.nb q] at e
    exact s t' g' v' e

/-! ### The blocks of this call -/
structure Blk where
  b : Nat
  o : O

def inOwn (own : List Blk) (b : Nat) : Bool := own.any (fun e => Nat.beq e.b b)
theorem inOwn_iff {own : List Blk} {b : Nat} : inOwn own b = true ↔ ∃ e ∈ own, e.b = b := by
  unfold inOwn
  rw [List.any_eq_true]
  constructor
  · rintro ⟨e, he, hb⟩; exact ⟨e, he, Nat.eq_of_beq_eq_true hb⟩
  · rintro ⟨e, he, hb⟩; exact ⟨e, he, by subst hb; exact Nat.beq_refl _⟩

structure Has (own : List Blk) (h0 h : Heap) (hf : Heap) : Prop where
  ext : HExt h0 hf
  wf : Wf hf
  msk : Msk (inOwn own) hf h
  blk : ∀ e ∈ own, h.get e.b = some e.o ∧ h.lim ≤ e.b
  nd : (own.map Blk.b).Nodup

theorem Msk.congr {S S' : Nat → Bool} {f h : Heap} (m : Msk S f h) (e : ∀ b, S b = S' b) : Msk S' f h := by
  have : S = S' := funext e
  subst this; exact m

namespace Has
variable {own : List Blk} {h0 h hf : Heap}
theorem nil {h : Heap} (w : Wf h) : Has [] h h h :=
  ⟨HExt.refl h, w, ⟨rfl, rfl, rfl, fun _ e => (by cases e), fun _ _ => rfl, fun _ e => (by cases e)⟩, fun _ e => (by cases e), List.nodup_nil⟩
theorem hext (m : Has own h0 h hf) : HExt h0 h := by
  refine ⟨m.msk.base.trans m.ext.base, m.msk.lim.trans m.ext.lim, by rw [m.msk.n]; exact m.ext.n, fun b o hb ho => ?_, fun _ => ⟨fun b o hb => ?_, by rw [m.msk.lim, m.msk.n]; exact m.wf.lim⟩⟩
  · have h1 := m.ext.get b o hb ho
    rw [m.msk.get b (m.msk.out h1 ho)]; exact h1
  · rw [m.msk.n]
    cases e : inOwn own b with
    | true => exact m.msk.lt b e
    | false => rw [m.msk.get b e] at hb; exact m.wf.lt b o hb
theorem wfh (m : Has own h0 h hf) : Wf h := ⟨fun b o hb => by
    rw [m.msk.n]
    cases e : inOwn own b with
    | true => exact m.msk.lt b e
    | false => rw [m.msk.get b e] at hb; exact m.wf.lt b o hb, by rw [m.msk.lim, m.msk.n]; exact m.wf.lim⟩
theorem perm (m : Has own h0 h hf) {own' : List Blk} (p : own.Perm own') : Has own' h0 h hf :=
  ⟨m.ext, m.wf, m.msk.congr (fun b => Bool.eq_iff_iff.mpr (by rw [inOwn_iff, inOwn_iff]; exact ⟨fun ⟨e, he, hb⟩ => ⟨e, p.mem_iff.mp he, hb⟩, fun ⟨e, he, hb⟩ => ⟨e, p.mem_iff.mpr he, hb⟩⟩)),
    fun e he => m.blk e (p.mem_iff.mpr he), (p.map Blk.b).nodup_iff.mp m.nd⟩
theorem io_cons (e : Blk) (own : List Blk) (b : Nat) : inOwn (e :: own) b = (Nat.beq e.b b || inOwn own b) := rfl
theorem alloc (m : Has own h0 h hf) (o : O) : Has (⟨h.n, o⟩ :: own) h0 (h.alloc o) (hf.alloc .dead) := by
  have hn := m.msk.n
  refine ⟨m.ext.trans (HExt.alloc m.wf _), m.wf.alloc _, ⟨m.msk.base, m.msk.lim, by show h.n + 1 = hf.n + 1; rw [hn], ?_, ?_, ?_⟩, ?_, ?_⟩
  · intro b hb
    rw [get_alloc]
    by_cases e : hf.n = b
    · rw [if_pos e]
    · rw [if_neg e]
      rw [io_cons, Bool.or_eq_true] at hb
      rcases hb with q | q
      · exact absurd (Nat.eq_of_beq_eq_true q) (by rw [hn]; exact e)
      · exact m.msk.dead b q
  · intro b hb
    rw [io_cons, Bool.or_eq_false_iff] at hb
    have e : ¬ h.n = b := by intro e; subst e; have := hb.1; rw [Nat.beq_refl] at this; cases this
    rw [get_alloc, if_neg e, get_alloc, if_neg (by rw [← hn]; exact e)]
    exact m.msk.get b hb.2
  · intro b hb
    rw [io_cons, Bool.or_eq_true] at hb
    show b < hf.n + 1
    rcases hb with q | q
    · have := Nat.eq_of_beq_eq_true q; dsimp only at this; omega
    · exact Nat.lt_succ_of_lt (m.msk.lt b q)
  · intro e he
    rcases List.mem_cons.mp he with q | q
    · subst q
      refine ⟨by rw [get_alloc, if_pos rfl], ?_⟩
      show h.lim ≤ h.n
      rw [m.msk.lim, hn]; exact m.wf.lim
    · have ho := m.blk e q
      have lt := m.msk.lt e.b (inOwn_iff.mpr ⟨e, q, rfl⟩)
      exact ⟨by rw [get_alloc, if_neg (by omega)]; exact ho.1, ho.2⟩
  · rw [List.map_cons, List.nodup_cons]
    refine ⟨fun hm => ?_, m.nd⟩
    obtain ⟨e, he, hb⟩ := List.mem_map.mp hm
    have lt := m.msk.lt e.b (inOwn_iff.mpr ⟨e, he, rfl⟩)
    have : e.b = h.n := hb
    omega
/-- The first block is written. -/
theorem storeH {b : Nat} {o : O} (m : Has (⟨b, o⟩ :: own) h0 h hf) (o' : O) : Has (⟨b, o'⟩ :: own) h0 (h.set b o') hf := by
  have hb : inOwn (⟨b, o⟩ :: own) b = true := inOwn_iff.mpr ⟨_, List.mem_cons_self, rfl⟩
  have nd := m.nd
  rw [List.map_cons, List.nodup_cons] at nd
  refine ⟨m.ext, m.wf, ?_, ?_, m.nd⟩
  · have e : Msk (inOwn (⟨b, o⟩ :: own)) hf (h.set b o') := ⟨m.msk.base, m.msk.lim, m.msk.n, m.msk.dead, fun x hx => by
      rw [get_set, if_neg (by intro e; subst e; rw [hb] at hx; cases hx)]; exact m.msk.get x hx, m.msk.lt⟩
    exact e
  · intro e he
    rcases List.mem_cons.mp he with q | q
    · subst q
      exact ⟨by rw [get_set, if_pos rfl], (m.blk _ List.mem_cons_self).2⟩
    · have ho := m.blk e (List.mem_cons_of_mem _ q)
      have : b ≠ e.b := fun x => nd.1 (by rw [show (⟨b, o⟩ : Blk).b = e.b from x]; exact List.mem_map_of_mem q)
      exact ⟨by rw [get_set, if_neg this]; exact ho.1, ho.2⟩
/-- The first block is no more. -/
theorem killH {e : Blk} (m : Has (e :: own) h0 h hf) : Has own h0 (h.set e.b .dead) hf := by
  have nd := m.nd
  rw [List.map_cons, List.nodup_cons] at nd
  have hb : inOwn (e :: own) e.b = true := inOwn_iff.mpr ⟨_, List.mem_cons_self, rfl⟩
  refine ⟨m.ext, m.wf, ⟨m.msk.base, m.msk.lim, m.msk.n, fun x hx => m.msk.dead x (by rw [io_cons, hx, Bool.or_true]), fun x hx => ?_, fun x hx => m.msk.lt x (by rw [io_cons, hx, Bool.or_true])⟩, ?_, nd.2⟩
  · rw [get_set]
    split
    · rename_i q; subst q; exact (m.msk.dead _ hb).symm
    · rename_i q; exact m.msk.get x (by rw [io_cons, hx, Trie.nb q]; rfl)
  · intro x hx
    have ho := m.blk x (List.mem_cons_of_mem _ hx)
    have : e.b ≠ x.b := fun q => nd.1 (by rw [q]; exact List.mem_map_of_mem hx)
    exact ⟨by rw [get_set, if_neg this]; exact ho.1, ho.2⟩
/-- The first block is given to all else. -/
theorem pubH {b : Nat} {o : O} (m : Has (⟨b, o⟩ :: own) h0 h hf) : Has own h0 h (hf.set b o) := by
  have nd := m.nd
  rw [List.map_cons, List.nodup_cons] at nd
  have hb : inOwn (⟨b, o⟩ :: own) b = true := inOwn_iff.mpr ⟨_, List.mem_cons_self, rfl⟩
  have hd := m.msk.dead b hb
  have hlt := m.msk.lt b hb
  have nb : ∀ x, inOwn own x = true → b ≠ x := by
    intro x hx e
    obtain ⟨y, hy, hyb⟩ := inOwn_iff.mp hx
    exact nd.1 (by rw [show (⟨b, o⟩ : Blk).b = y.b from e.trans hyb.symm]; exact List.mem_map_of_mem hy)
  refine ⟨⟨m.ext.base, m.ext.lim, m.ext.n, fun x o' hx ho => ?_, fun w => ⟨fun x o' hx => ?_, m.wf.lim⟩⟩, ⟨fun x o' hx => ?_, m.wf.lim⟩, ⟨m.msk.base, m.msk.lim, m.msk.n, fun x hx => ?_, fun x hx => ?_, fun x hx => m.msk.lt x (by rw [io_cons, hx, Bool.or_true])⟩, fun e he => m.blk e (List.mem_cons_of_mem _ he), nd.2⟩
  · have h1 := m.ext.get x o' hx ho
    rw [get_set, if_neg (by intro e; subst e; rw [hd] at h1; cases h1; exact ho rfl)]; exact h1
  · rw [get_set] at hx
    split at hx
    · rename_i q; subst q; exact hlt
    · exact m.wf.lt x o' hx
  · rw [get_set] at hx
    split at hx
    · rename_i q; subst q; exact hlt
    · exact m.wf.lt x o' hx
  · rw [get_set, if_neg (nb x hx)]; exact m.msk.dead x (by rw [io_cons, hx, Bool.or_true])
  · rw [get_set]
    split
    · rename_i q; subst q; exact (m.blk _ List.mem_cons_self).1
    · rename_i q; exact m.msk.get x (by rw [io_cons, hx, Trie.nb q]; rfl)
theorem split_at {α : Type} {l : List α} {i : Nat} {e : α} (hi : l[i]? = some e) : l.Perm (e :: l.eraseIdx i) ∧ ∀ e', (l.set i e').Perm (e' :: l.eraseIdx i) := by
  induction l generalizing i with
  | nil => simp at hi
  | cons x l ih =>
    cases i with
    | zero =>
      have : x = e := by simpa using hi
      subst this
      exact ⟨List.Perm.refl _, fun e' => List.Perm.refl _⟩
    | succ i =>
      obtain ⟨h1, h2⟩ := ih (i := i) (by simpa using hi)
      exact ⟨(h1.cons x).trans (List.Perm.swap _ _ _), fun e' => ((h2 e').cons x).trans (List.Perm.swap _ _ _)⟩
theorem at_ (m : Has own h0 h hf) {i : Nat} {e : Blk} (hi : own[i]? = some e) : h.get e.b = some e.o ∧ h.lim ≤ e.b := m.blk e (List.mem_of_getElem? hi)
theorem store (m : Has own h0 h hf) {i b : Nat} {o : O} (hi : own[i]? = some ⟨b, o⟩) (o' : O) :
    Has (own.set i ⟨b, o'⟩) h0 (h.set b o') hf :=
  ((m.perm (split_at hi).1).storeH o').perm ((split_at hi).2 _).symm
theorem kill (m : Has own h0 h hf) {i b : Nat} {o : O} (hi : own[i]? = some ⟨b, o⟩) : Has (own.eraseIdx i) h0 (h.set b .dead) hf := (m.perm (split_at hi).1).killH
theorem pub (m : Has own h0 h hf) {i b : Nat} {o : O} (hi : own[i]? = some ⟨b, o⟩) : Has (own.eraseIdx i) h0 h (hf.set b o) := (m.perm (split_at hi).1).pubH
/-- Some blocks are forgotten. -/
theorem sub (m : Has own h0 h hf) {own' : List Blk} (s : own'.Sublist own) : ∃ hf', Has own' h0 h hf' := by
  have : ∃ r, own.Perm (r ++ own') := by
    obtain ⟨r, hr⟩ := s.exists_perm_append
    exact ⟨r, hr.trans List.perm_append_comm⟩
  obtain ⟨r, hr⟩ := this
  replace m := m.perm hr
  clear hr s
  induction r generalizing hf with
  | nil => exact ⟨hf, m⟩
  | cons e r ih => exact ih (pubH (own := r ++ own') (b := e.b) (o := e.o) m)
/-- What another's run leaves. -/
theorem keep (m : Has own h0 h hf) {h0' hf' h' : Heap} (k : Kept (inOwn own) h h') (mm : Msk (inOwn own) hf' h') (e : HExt h0' hf') (w : Wf hf') (hl : h'.lim = h.lim) : Has own h0' h' hf' :=
  ⟨e, w, mm, fun x hx => by
    have ho := m.blk x hx
    rw [k x.b (inOwn_iff.mpr ⟨x, hx, rfl⟩), hl]; exact ho, m.nd⟩
end Has

/-! ### The stack -/
inductive It where
  | ops (r : Array Oper) (q : Bool) (os : List Oper)
  | sops (r : Array Oper) (sl : List (Nat × Nat)) (os : List (Nat × List Nat))
  | rck (r : Array Oper) (vs : List (Nat × Value))
  | code (c : Code)
  | endb (id : Nat)
  | endl (body : Code)

/-- What some readings tell now. -/
def Rcd (E : Env) (r : Array Oper) (vs : List (Nat × Value)) (fr : Fr) (h : Heap) : Prop :=
  ∀ p ∈ vs, ∃ o, r[p.1]? = some o ∧ (wantedV r fr o = true → readV E fr h o.op = some p.2)

open Classical in
noncomputable def stepIt (E : Env) (nt n : Nat) : It → Fr → Heap → Option (Ex × Fr × Heap)
  | .ops r q os, fr, h => match (bif q then runQuiet E nt (run E n) r os fr h else runOps E nt (run E n) r os fr h) with
    | some (fr', h') => some (.normal, fr', h')
    | none => none
  | .sops r sl os, fr, h => match runSched E nt (run E n) r sl os fr h with
    | some (fr', h') => some (.normal, fr', h')
    | none => none
  | .rck r vs, fr, h => if Rcd E r vs fr h then some (.normal, fr, h) else none
  | .code c, fr, h => evalC E nt (run E n) n c fr h
  | .endb _, fr, h => some (.normal, fr, h)
  | .endl body, fr, h => iter (fun fr h => evalC E nt (run E n) n body fr h) n fr h

noncomputable def exec (E : Env) (nt n : Nat) : List It → Ex → Fr → Heap → Option (Fr × Heap)
  | [], .exit _, _, _ => none
  | [], .normal, fr, h => some (fr, h)
  | [], .ret, fr, h => some (fr, h)
  | it :: st, .normal, fr, h => match stepIt E nt n it fr h with
    | some (x, fr', h') => exec E nt n st x fr' h'
    | none => none
  | _ :: st, .ret, fr, h => exec E nt n st .ret fr h
  | .endb id :: st, .exit i, fr, h => if i = id then exec E nt n st .normal fr h else exec E nt n st (.exit i) fr h
  | .ops _ _ _ :: st, .exit i, fr, h => exec E nt n st (.exit i) fr h
  | .sops _ _ _ :: st, .exit i, fr, h => exec E nt n st (.exit i) fr h
  | .rck _ _ :: st, .exit i, fr, h => exec E nt n st (.exit i) fr h
  | .code _ :: st, .exit i, fr, h => exec E nt n st (.exit i) fr h
  | .endl _ :: st, .exit i, fr, h => exec E nt n st (.exit i) fr h

theorem stepIt_le {E : Env} {nt n m : Nat} (hm : n ≤ m) {it : It} {fr : Fr} {h : Heap} {r : Ex × Fr × Heap} (e : stepIt E nt n it fr h = some r) : stepIt E nt m it fr h = some r := by
  cases it with
  | ops a q os =>
    unfold stepIt at e ⊢
    cases q with
    | true =>
      simp only [cond_true] at e ⊢
      split at e
      · rename_i e1; rw [runQuiet_le (run_le hm) _ e1]; exact e
      · cases e
    | false =>
      simp only [cond_false] at e ⊢
      split at e
      · rename_i e1; rw [runOps_le (run_le hm) _ e1]; exact e
      · cases e
  | sops a sl os =>
    simp only [stepIt] at e ⊢
    cases e1 : runSched E nt (run E n) a sl os fr h with
    | none => rw [e1] at e; cases e
    | some p => rw [runSched_le (run_le hm) _ e1]; rw [e1] at e; exact e
  | rck a vs => exact e
  | code c => exact evalC_le (run_le hm) hm c _ _ _ e
  | endb id => exact e
  | endl body => exact iter_le (fun _ _ _ q => evalC_le (run_le hm) hm body _ _ _ q) hm _ _ _ e

theorem exec_le {E : Env} {nt n m : Nat} (hm : n ≤ m) : ∀ (st : List It) {x : Ex} {fr : Fr} {h : Heap} {r : Fr × Heap}, exec E nt n st x fr h = some r → exec E nt m st x fr h = some r := by
  intro st
  induction st with
  | nil => intro x fr h r e; cases x <;> exact e
  | cons it st ih =>
    intro x fr h r e
    cases x with
    | normal =>
      unfold exec at e ⊢
      split at e
      · rename_i e1; rw [stepIt_le hm e1]; exact ih e
      · cases e
    | ret => cases it <;> exact ih e
    | exit i =>
      cases it with
      | endb id =>
        unfold exec at e ⊢
        split at e
        · rename_i q; rw [if_pos q]; exact ih e
        · rename_i q; rw [if_neg q]; exact ih e
      | ops a q os => exact ih e
      | sops a sl os => exact ih e
      | rck a vs => exact ih e
      | code c => exact ih e
      | endl b => exact ih e

theorem exec_ret (E : Env) (nt n : Nat) (fr : Fr) (h : Heap) : ∀ st : List It, exec E nt n st .ret fr h = some (fr, h) := by
  intro st
  induction st with
  | nil => rfl
  | cons it st ih => cases it <;> exact ih

def popTo (id : Nat) : List It → Option (List It)
  | [] => none
  | .endb i :: st => if id = i then some st else popTo id st
  | .ops _ _ _ :: st => popTo id st
  | .sops _ _ _ :: st => popTo id st
  | .rck _ _ :: st => popTo id st
  | .code _ :: st => popTo id st
  | .endl _ :: st => popTo id st
theorem exec_pop {E : Env} {nt n : Nat} {fr : Fr} {h : Heap} {id : Nat} : ∀ {st st' : List It}, popTo id st = some st' → exec E nt n st (.exit id) fr h = exec E nt n st' .normal fr h := by
  intro st
  induction st with
  | nil => intro st' e; cases e
  | cons it st ih =>
    intro st' e
    cases it with
    | endb i =>
      unfold popTo at e
      conv => lhs; unfold exec
      split at e
      · rename_i q; rw [if_pos q]; cases e; rfl
      · rename_i q; rw [if_neg q]; exact ih e
    | ops a q os => exact ih e
    | sops a sl os => exact ih e
    | rck a vs => exact ih e
    | code c => exact ih e
    | endl b => exact ih e

structure Cx where
  E : Env
  nt : Nat
  res : List ResultVar
  Q : Value → Heap → Prop

/-- It comes to an end, as asked. -/
def Dn (X : Cx) (st : List It) (fr : Fr) (h : Heap) : Prop :=
  ∃ n fr' h' vs, exec X.E X.nt n st .normal fr h = some (fr', h') ∧ resultsV X.E fr' h' X.res = some vs ∧ X.Q (packV vs) h'

def Goes (X : Cx) (st : List It) (l : L) (own : List Blk) (h0 : Heap) : Prop :=
  ∀ fr h hf, Agree l fr → Has own h0 h hf → Dn X st fr h

theorem Goes.weak {X : Cx} {st : List It} {l m : L} {own : List Blk} {h0 : Heap} (g : Goes X st m own h0) (s : Sub m l) : Goes X st l own h0 :=
  fun fr h hf a m => g fr h hf (s.agree a) m
theorem Has.back {own : List Blk} {h0 h1 h hf : Heap} (m : Has own h1 h hf) (e : HExt h0 h1) : Has own h0 h hf := ⟨e.trans m.ext, m.wf, m.msk, m.blk, m.nd⟩
/-- What is known of an earlier heap is known. -/
theorem Goes.fwd {X : Cx} {st : List It} {l : L} {own : List Blk} {h0 : Heap} (g : ∀ h1, HExt h0 h1 → Wf h1 → Goes X st l own h1) : Goes X st l own h0 :=
  fun fr h hf a m => g hf m.ext m.wf fr h hf a ⟨HExt.refl hf, m.wf, m.msk, m.blk, m.nd⟩

section
variable {X : Cx} {st : List It} {l : L} {own : List Blk} {h0 : Heap}

theorem Dn.of_eq {st' : List It} {fr fr1 : Fr} {h h1 : Heap} (e : ∀ n, exec X.E X.nt n st .normal fr h = exec X.E X.nt n st' .normal fr1 h1) (d : Dn X st' fr1 h1) : Dn X st fr h := by
  obtain ⟨n, fr', h', vs, e1, e2, e3⟩ := d
  exact ⟨n, fr', h', vs, by rw [e]; exact e1, e2, e3⟩

theorem go_seq {a b : Code} (g : Goes X (.code a :: .code b :: st) l own h0) : Goes X (.code (.seq a b) :: st) l own h0 := by
  intro fr h hf ag hs
  refine Dn.of_eq (fun n => ?_) (g fr h hf ag hs)
  unfold exec
  show (match evalC X.E X.nt (run X.E n) n (.seq a b) fr h with | some (x, fr', h') => exec X.E X.nt n st x fr' h' | none => none) = (match evalC X.E X.nt (run X.E n) n a fr h with | some (x, fr', h') => exec X.E X.nt n (.code b :: st) x fr' h' | none => none)
  cases e : evalC X.E X.nt (run X.E n) n a fr h with
  | none => simp only [evalC, e]
  | some r =>
    obtain ⟨x, fr', h'⟩ := r
    cases x with
    | normal => simp only [evalC, e]; rfl
    | exit i => simp only [evalC, e]; rfl
    | ret => simp only [evalC, e]; rfl
theorem go_region {id : Nat} {ops : Array Oper} (g : Goes X (.ops ops false ops.toList :: st) l own h0) : Goes X (.code (.region id ops false) :: st) l own h0 := by
  intro fr h hf ag hs
  refine Dn.of_eq (fun n => ?_) (g fr h hf ag hs)
  simp only [exec, stepIt, evalC]
  rfl
theorem go_regionq {id : Nat} {ops : Array Oper} (hq : quietR X.E.P ops = true) (g : Goes X (.ops ops true ops.toList :: st) l own h0) : Goes X (.code (.region id ops true) :: st) l own h0 := by
  intro fr h hf ag hs
  refine Dn.of_eq (fun n => ?_) (g fr h hf ag hs)
  simp only [exec, stepIt, evalC, hq, cond_true]
  rfl
theorem go_regions {id : Nat} {ops : Array Oper} {L : List (Nat × List Nat)} (hq : quietR X.E.P ops = false) (hL : sched ops = L) (hS : ∀ n, slots ops n = []) (g : Goes X (.sops ops [] L :: st) l own h0) : Goes X (.code (.region id ops true) :: st) l own h0 := by
  intro fr h hf ag hs
  refine Dn.of_eq (fun n => ?_) (g fr h hf ag hs)
  simp only [exec, stepIt, evalC, hq, runDrawn, hS, hL, cond_true, cond_false, List.length_nil, resv]
  rfl
theorem go_snil {r : Array Oper} {sl} (g : Goes X st l own h0) : Goes X (.sops r sl [] :: st) l own h0 := by
  intro fr h hf ag hs
  refine Dn.of_eq (fun n => ?_) (g fr h hf ag hs)
  simp only [exec, stepIt, runSched]
/-- The next operation, behind which nothing is looked at again. -/
theorem go_sop {r : Array Oper} {sl} {i : Nat} {o : Oper} {L : List (Nat × List Nat)} (ho : r[i]? = some o) (ha : allocK o.op = false) (g : Goes X (.ops r false [o] :: .sops r sl L :: st) l own h0) : Goes X (.sops r sl ((i, []) :: L) :: st) l own h0 := by
  intro fr h hf ag hs
  refine Dn.of_eq (fun n => ?_) (g fr h hf ag hs)
  simp only [exec, stepIt, runSched, ho, opS_opV ha, chkR, cond_true, cond_false, runOps]
  cases wantedV r fr o with
  | true =>
    simp only [cond_true]
    cases opV X.E (run X.E n) fr h o.op with
    | none => rfl
    | some p =>
      obtain ⟨v, h'⟩ := p
      dsimp only
      cases fr.put X.nt o.dst v <;> rfl
  | false =>
    simp only [cond_false]
    cases fr.put X.nt o.dst undef <;> rfl
theorem go_rck {r : Array Oper} {vs : List (Nat × Value)} (hr : ∀ fr h hf, Agree l fr → Has own h0 h hf → Rcd X.E r vs fr h) (g : Goes X st l own h0) : Goes X (.rck r vs :: st) l own h0 := by
  intro fr h hf ag hs
  refine Dn.of_eq (fun n => ?_) (g fr h hf ag hs)
  simp only [exec, stepIt, if_pos (hr fr h hf ag hs)]
theorem chkR_of {E : Env} {r : Array Oper} {o : Oper} {fr fr' : Fr} {nt : Nat} {v : Value} (hp : fr.put nt o.dst v = some fr') {h h' : Heap} : ∀ {vs : List (Nat × Value)}, Rcd E r vs fr h → Rcd E r vs fr' h' →
    (∀ p ∈ vs, veqN 6 p.2 p.2 = true) → (∀ p ∈ vs, ∀ o', r[p.1]? = some o' → noDst r o o' = true) → chkR E r fr h h' (vs.map (·.1)) = true
  | [], _, _, _, _ => rfl
  | p :: vs, b, a, hv, hd => by
    simp only [List.map_cons, chkR, Bool.and_eq_true]
    refine ⟨?_, chkR_of hp (fun q hq => b q (List.mem_cons_of_mem _ hq)) (fun q hq => a q (List.mem_cons_of_mem _ hq)) (fun q hq => hv q (List.mem_cons_of_mem _ hq)) (fun q hq => hd q (List.mem_cons_of_mem _ hq))⟩
    obtain ⟨o1, q1, q2⟩ := b p List.mem_cons_self
    obtain ⟨o2, q3, q4⟩ := a p List.mem_cons_self
    rw [q1] at q3; cases q3
    have ag : Agr (o1.looksAt r) fr' fr := agr_put hp (noDst_spec (hd p List.mem_cons_self o1 q1))
    rw [q1]
    dsimp only
    cases w : wantedV r fr o1 with
    | false => rfl
    | true =>
      have e2 := q4 (by rw [wantedV_congr ag]; exact w)
      rw [readV_congr (agrO_of ag)] at e2
      rw [q2 w, e2]
      simp only [Bool.not_true, Bool.false_or, same]
      exact hv p List.mem_cons_self
/-- The next operation, behind which some readings are looked at again. -/
theorem go_sopc {r : Array Oper} {sl} {i : Nat} {o : Oper} {L : List (Nat × List Nat)} {ck : List Nat} (vs : List (Nat × Value)) (ho : r[i]? = some o) (ha : allocK o.op = false) (hck : vs.map (·.1) = ck)
    (hb : ∀ fr h hf, Agree l fr → Has own h0 h hf → Rcd X.E r vs fr h) (hv : ∀ p ∈ vs, veqN 6 p.2 p.2 = true) (hd : (ck.all fun j => match r[j]? with | some o' => noDst r o o' | none => true) = true)
    (g : Goes X (.ops r false [o] :: .rck r vs :: .sops r sl L :: st) l own h0) : Goes X (.sops r sl ((i, ck) :: L) :: st) l own h0 := by
  intro fr h hf ag hs
  obtain ⟨n, fr2, h2, rs, e1, e2, e3⟩ := g fr h hf ag hs
  refine ⟨n, fr2, h2, rs, ?_, e2, e3⟩
  have hd' : ∀ p ∈ vs, ∀ o', r[p.1]? = some o' → noDst r o o' = true := by
    intro p hp o' ho'
    have := List.all_eq_true.1 hd p.1 (by rw [← hck]; exact List.mem_map.2 ⟨p, hp, rfl⟩)
    rw [ho'] at this; exact this
  have bb := hb fr h hf ag hs
  simp only [exec, stepIt, runSched, ho, opS_opV ha, cond_true, cond_false, runOps] at e1 ⊢
  cases w : wantedV r fr o with
  | true =>
    rw [w] at e1
    simp only [cond_true] at e1 ⊢
    cases ov : opV X.E (run X.E n) fr h o.op with
    | none => rw [ov] at e1; cases e1
    | some p =>
      obtain ⟨v, h'⟩ := p
      rw [ov] at e1
      dsimp only at e1 ⊢
      cases hp : fr.put X.nt o.dst v with
      | none => rw [hp] at e1; cases e1
      | some fr1 =>
        rw [hp] at e1
        dsimp only at e1
        by_cases c : Rcd X.E r vs fr1 h'
        · simp only [exec, stepIt, if_pos c] at e1
          rw [← hck, chkR_of hp bb c hv hd']
          exact e1
        · simp only [exec, stepIt, if_neg c] at e1; cases e1
  | false =>
    rw [w] at e1
    simp only [cond_false] at e1 ⊢
    cases hp : fr.put X.nt o.dst undef with
    | none => rw [hp] at e1; cases e1
    | some fr1 =>
      rw [hp] at e1
      dsimp only at e1
      by_cases c : Rcd X.E r vs fr1 h
      · simp only [exec, stepIt, if_pos c] at e1; exact e1
      · simp only [exec, stepIt, if_neg c] at e1; cases e1
theorem go_nil {r : Array Oper} {q : Bool} (g : Goes X st l own h0) : Goes X (.ops r q [] :: st) l own h0 := by
  intro fr h hf ag hs
  refine Dn.of_eq (fun n => ?_) (g fr h hf ag hs)
  cases q <;> simp only [exec, stepIt, runOps, runQuiet, cond_true, cond_false]
theorem go_skip (g : Goes X st l own h0) : Goes X (.code .skip :: st) l own h0 := by
  intro fr h hf ag hs
  refine Dn.of_eq (fun n => ?_) (g fr h hf ag hs)
  simp only [exec, stepIt, evalC]
theorem go_label {i : Nat} (g : Goes X st l own h0) : Goes X (.code (.label i) :: st) l own h0 := by
  intro fr h hf ag hs
  refine Dn.of_eq (fun n => ?_) (g fr h hf ag hs)
  simp only [exec, stepIt, evalC]
theorem go_scope {c : Code} (g : Goes X (.code c :: st) l own h0) : Goes X (.code (.scope c) :: st) l own h0 := by
  intro fr h hf ag hs
  refine Dn.of_eq (fun n => ?_) (g fr h hf ag hs)
  simp only [exec, stepIt, evalC]
theorem go_endb {i : Nat} (g : Goes X st l own h0) : Goes X (.endb i :: st) l own h0 := by
  intro fr h hf ag hs
  refine Dn.of_eq (fun n => ?_) (g fr h hf ag hs)
  simp only [exec, stepIt]
theorem go_block {i : Nat} {c : Code} (g : Goes X (.code c :: .endb i :: st) l own h0) : Goes X (.code (.block i c) :: st) l own h0 := by
  intro fr h hf ag hs
  refine Dn.of_eq (fun n => ?_) (g fr h hf ag hs)
  unfold exec
  show (match evalC X.E X.nt (run X.E n) n (.block i c) fr h with | some (x, fr', h') => exec X.E X.nt n st x fr' h' | none => none) = (match evalC X.E X.nt (run X.E n) n c fr h with | some (x, fr', h') => exec X.E X.nt n (.endb i :: st) x fr' h' | none => none)
  cases e : evalC X.E X.nt (run X.E n) n c fr h with
  | none => simp only [evalC, e]
  | some r =>
    obtain ⟨x, fr', h'⟩ := r
    cases x with
    | normal => simp only [evalC, e]; rfl
    | exit j =>
      simp only [evalC, e]
      by_cases q : j = i
      · rw [if_pos q]; simp only [exec, if_pos q]
      · rw [if_neg q]; simp only [exec, if_neg q]
    | ret => simp only [evalC, e]; rfl
theorem go_exit {i : Nat} {st' : List It} (hp : popTo i st = some st') (g : Goes X st' l own h0) : Goes X (.code (.exit i) :: st) l own h0 := by
  intro fr h hf ag hs
  refine Dn.of_eq (fun n => ?_) (g fr h hf ag hs)
  simp only [exec, stepIt, evalC, exec_pop hp]
theorem go_unroll {body : Code} (g : Goes X (.code body :: .endl body :: st) l own h0) : Goes X (.endl body :: st) l own h0 := by
  intro fr h hf ag hs
  obtain ⟨n, fr', h', vs, e1, e2, e3⟩ := g fr h hf ag hs
  refine ⟨n + 1, fr', h', vs, ?_, e2, e3⟩
  unfold exec at e1 ⊢
  split at e1
  · rename_i x fr1 h1 es
    have es' : evalC X.E X.nt (run X.E n) n body fr h = some (x, fr1, h1) := es
    have es2 := evalC_le (run_le (Nat.le_succ n)) (Nat.le_succ n) body _ _ _ es'
    cases x with
    | normal =>
      unfold exec at e1
      split at e1
      · rename_i x2 fr2 h2 et
        have et' : iter (fun fr h => evalC X.E X.nt (run X.E n) n body fr h) n fr1 h1 = some (x2, fr2, h2) := et
        have et2 := iter_le (fun _ _ _ q => evalC_le (run_le (Nat.le_succ n)) (Nat.le_succ n) body _ _ _ q) (Nat.le_refl n) _ _ _ et'
        have : stepIt X.E X.nt (n + 1) (.endl body) fr h = some (x2, fr2, h2) := by
          show iter (fun fr h => evalC X.E X.nt (run X.E (n + 1)) (n + 1) body fr h) (n + 1) fr h = _
          unfold iter
          rw [es2]; exact et2
        rw [this]
        exact exec_le (Nat.le_succ n) st e1
      · cases e1
    | exit i =>
      have : stepIt X.E X.nt (n + 1) (.endl body) fr h = some (.exit i, fr1, h1) := by
        show iter (fun fr h => evalC X.E X.nt (run X.E (n + 1)) (n + 1) body fr h) (n + 1) fr h = _
        unfold iter
        rw [es2]
      rw [this]
      exact exec_le (Nat.le_succ n) st e1
    | ret =>
      have : stepIt X.E X.nt (n + 1) (.endl body) fr h = some (.ret, fr1, h1) := by
        show iter (fun fr h => evalC X.E X.nt (run X.E (n + 1)) (n + 1) body fr h) (n + 1) fr h = _
        unfold iter
        rw [es2]
      rw [this]
      exact exec_le (Nat.le_succ n) st e1
  · cases e1
theorem go_loop1 {body : Code} (g : Goes X (.endl body :: st) l own h0) : Goes X (.code (.loop body) :: st) l own h0 := by
  intro fr h hf ag hs
  refine Dn.of_eq (fun n => ?_) (g fr h hf ag hs)
  simp only [exec, stepIt, evalC]

/-- A loop, with what stays true of it, and what falls. -/
theorem go_loop {α : Type} {body : Code} (I : α → Prop) (m : α → Nat) (sl : α → L) (so : α → List Blk) (sh : α → Heap)
    (step : ∀ a, I a → (∀ a', I a' → m a' < m a → Goes X (.endl body :: st) (sl a') (so a') (sh a')) → Goes X (.code body :: .endl body :: st) (sl a) (so a) (sh a))
    (a : α) (ha : I a) (hl : Sub (sl a) l) (ho : so a = own) (hh : sh a = h0) : Goes X (.code (.loop body) :: st) l own h0 := by
  subst ho hh
  apply go_loop1
  refine Goes.weak ?_ hl
  have all : ∀ k a, m a ≤ k → I a → Goes X (.endl body :: st) (sl a) (so a) (sh a) := by
    intro k
    induction k with
    | zero => intro a hm hi; exact go_unroll (step a hi (fun a' _ hlt => by omega))
    | succ k ih => intro a hm hi; exact go_unroll (step a hi (fun a' hi' hlt => ih a' (by omega) hi'))
  exact all _ a (Nat.le_refl _) ha

/-! ### Operands -/
def OP (l : L) (g : Bool) (x : Operand) (v : Value) : Prop := ∀ fr, Agree l fr → g = true → ev fr x = some v
theorem ot {g : Bool} {t : Nat} {v : Value} (h : lk l t = some (true, v)) : OP l g (.tmp t) v := fun fr a _ => by
  simp only [ev, a.at h, cond_true]
theorem og {g g' : Bool} {t : Nat} {v : Value} (h : lk l t = some (g', v)) (hg : g = true → g' = true) : OP l g (.tmp t) v := fun fr a q => by
  simp only [ev, a.at h, hg q, cond_true]
theorem oc {g : Bool} {v : Value} (h : plainN 4 v = true) : OP l g (.const v) v := fun fr a _ => by
  simp only [ev, h, cond_true]
theorem of {g : Bool} {f : FuncId} : OP l g (.func f) (.func (.func f) #[] #[]) := fun fr a _ => rfl

def OPs (l : L) (g : Bool) (xs : List Operand) (vs : List Value) : Prop := ∀ fr, Agree l fr → g = true → evs fr xs = some vs
theorem os0 {g : Bool} : OPs l g [] [] := fun _ _ _ => rfl
theorem os1 {g : Bool} {x : Operand} {v : Value} {xs : List Operand} {vs : List Value} (h : OP l g x v) (k : OPs l g xs vs) : OPs l g (x :: xs) (v :: vs) := fun fr a q => by
  simp only [evs, h fr a q, k fr a q]

def OPp (l : L) (g : Bool) (xs : List (Nat × Operand)) (vs : List (Nat × Value)) : Prop := ∀ fr, Agree l fr → g = true → evParts fr xs = some vs
theorem op0 {g : Bool} : OPp l g [] [] := fun _ _ _ => rfl
theorem op1 {g : Bool} {i : Nat} {x : Operand} {v : Value} {xs : List (Nat × Operand)} {vs : List (Nat × Value)} (h : OP l g x v) (k : OPp l g xs vs) : OPp l g ((i, x) :: xs) ((i, v) :: vs) := fun fr a q => by
  simp only [evParts, h fr a q, k fr a q]

/-! ### Operations that only read -/
def RV (E : Env) (l : L) (own : List Blk) (h0 : Heap) (g : Bool) (op : Op) (v : Value) : Prop :=
  ∀ fr h hf, Agree l fr → Has own h0 h hf → g = true → readV E fr h op = some v

theorem step_read {r : Array Oper} {q : Bool} {o : Oper} {os : List Oper} {d : Nat} (hd : o.dst = some d) (hn : Nat.blt d X.nt = true) {g : Bool} {v : Value}
    (hw : ∀ fr, Agree l fr → wantedV r fr o = g) (hr : RV X.E l own h0 g o.op v) (k : Goes X (.ops r q os :: st) ((d, g, v) :: l) own h0) : Goes X (.ops r q (o :: os) :: st) l own h0 := by
  intro fr h hf ag hs
  refine Dn.of_eq (fun n => ?_) (k _ h hf (ag.set d g v) hs)
  simp only [exec, stepIt]
  cases q with
  | true =>
    simp only [cond_true, runQuiet, hw fr ag]
    cases g with
    | true => simp only [cond_true, quietV, hr fr h hf ag hs rfl, Fr.put, hd, hn]
    | false => simp only [cond_false, Fr.put, hd, hn, cond_true]
  | false =>
    simp only [cond_false, runOps, hw fr ag]
    cases g with
    | true => simp only [cond_true, opV, hr fr h hf ag hs rfl, Fr.put, hd, hn]
    | false => simp only [cond_false, Fr.put, hd, hn, cond_true]

theorem gr {r : Array Oper} {q : Bool} {os : List Oper} {d : Nat} {op : Op} {ty : TypeId} {pos : String} {aft} (hn : Nat.blt d X.nt = true) {v : Value}
    (hr : RV X.E l own h0 true op v) (k : Goes X (.ops r q os :: st) ((d, true, v) :: l) own h0) : Goes X (.ops r q (⟨some d, op, ty, pos, aft, none⟩ :: os) :: st) l own h0 :=
  step_read rfl hn (fun fr _ => rfl) hr k

theorem wanted_t {r : Array Oper} {o oj : Oper} {j dj : Nat} {w : Bool} (hg : o.guard = some (j, w)) (hj : r[j]? = some oj) (hd : oj.dst = some dj) {g b : Bool} (hl : lk l dj = some (g, .bool b)) :
    ∀ fr, Agree l fr → wantedV r fr o = (g && (b == w)) := by
  intro fr a
  simp only [wantedV, hg, hj, hd, a.at hl]
  cases g
  · rfl
  · rfl

theorem grt {r : Array Oper} {q : Bool} {os : List Oper} {d j dj : Nat} {op : Op} {ty : TypeId} {pos : String} {aft} (hn : Nat.blt d X.nt = true) {oj : Oper} (hj : r[j]? = some oj) (hd : oj.dst = some dj)
    {b : Bool} (hl : lk l dj = some (true, .bool b)) {v : Value}
    (hr : RV X.E l own h0 b op v) (k : Goes X (.ops r q os :: st) ((d, b, v) :: l) own h0) : Goes X (.ops r q (⟨some d, op, ty, pos, aft, some (j, true)⟩ :: os) :: st) l own h0 :=
  step_read rfl hn (fun fr a => by rw [wanted_t rfl hj hd hl fr a]; cases b <;> rfl) hr k
theorem grf {r : Array Oper} {q : Bool} {os : List Oper} {d j dj : Nat} {op : Op} {ty : TypeId} {pos : String} {aft} (hn : Nat.blt d X.nt = true) {oj : Oper} (hj : r[j]? = some oj) (hd : oj.dst = some dj)
    {b : Bool} (hl : lk l dj = some (true, .bool b)) {v : Value}
    (hr : RV X.E l own h0 (!b) op v) (k : Goes X (.ops r q os :: st) ((d, !b, v) :: l) own h0) : Goes X (.ops r q (⟨some d, op, ty, pos, aft, some (j, false)⟩ :: os) :: st) l own h0 :=
  step_read rfl hn (fun fr a => by rw [wanted_t rfl hj hd hl fr a]; cases b <;> rfl) hr k
theorem grt' {r : Array Oper} {q : Bool} {os : List Oper} {d j dj : Nat} {op : Op} {ty : TypeId} {pos : String} {aft} (hn : Nat.blt d X.nt = true) {oj : Oper} (hj : r[j]? = some oj) (hd : oj.dst = some dj)
    {g b : Bool} (hl : lk l dj = some (g, .bool b)) {v : Value}
    (hr : RV X.E l own h0 (g && b) op v) (k : Goes X (.ops r q os :: st) ((d, g && b, v) :: l) own h0) : Goes X (.ops r q (⟨some d, op, ty, pos, aft, some (j, true)⟩ :: os) :: st) l own h0 :=
  step_read rfl hn (fun fr a => by rw [wanted_t rfl hj hd hl fr a]; cases b <;> cases g <;> rfl) hr k
theorem grf' {r : Array Oper} {q : Bool} {os : List Oper} {d j dj : Nat} {op : Op} {ty : TypeId} {pos : String} {aft} (hn : Nat.blt d X.nt = true) {oj : Oper} (hj : r[j]? = some oj) (hd : oj.dst = some dj)
    {g b : Bool} (hl : lk l dj = some (g, .bool b)) {v : Value}
    (hr : RV X.E l own h0 (g && !b) op v) (k : Goes X (.ops r q os :: st) ((d, g && !b, v) :: l) own h0) : Goes X (.ops r q (⟨some d, op, ty, pos, aft, some (j, false)⟩ :: os) :: st) l own h0 :=
  step_read rfl hn (fun fr a => by rw [wanted_t rfl hj hd hl fr a]; cases b <;> cases g <;> rfl) hr k

theorem rc0 {r : Array Oper} : ∀ fr h hf, Agree l fr → Has own h0 h hf → Rcd X.E r [] fr h := fun _ _ _ _ _ p hp => by cases hp
theorem rc1 {r : Array Oper} {i : Nat} {o : Oper} {v : Value} {vs : List (Nat × Value)} (ho : r[i]? = some o) (hr : RV X.E l own h0 true o.op v) (k : ∀ fr h hf, Agree l fr → Has own h0 h hf → Rcd X.E r vs fr h) :
    ∀ fr h hf, Agree l fr → Has own h0 h hf → Rcd X.E r ((i, v) :: vs) fr h := by
  intro fr h hf ag hs p hp
  rcases List.mem_cons.1 hp with rfl | hp
  · exact ⟨o, ho, fun _ => hr fr h hf ag hs rfl⟩
  · exact k fr h hf ag hs p hp

end
end Go.Proofs.Ytadfhabapgipbaa.V
