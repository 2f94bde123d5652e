/- Slices' rows read, and small laws for the walks. .. and what follows it, in one text.
   No condition beyond those that each part names. -/
import Derived.Test.YtokfjifeofpkkaaGreatV23
import Derived.OpenShut
namespace Go.Proofs.YtokfjifeofpkkaaGreat.V
open Go
set_option linter.unusedVariables false
set_option linter.unusedSimpArgs false
theorem wrap_id {n : Int} (h0 : -9223372036854775808 ≤ n) (h1 : n < 9223372036854775808) : IntKind.wrap .i64 n = n := by
 unfold IntKind.wrap
 simp [IntKind.bits, IntKind.signed]
 omega
end Go.Proofs.YtokfjifeofpkkaaGreat.V
namespace Go.Proofs.YtokfjifeofpkkaaGreat.V
open Go
set_option linter.unusedVariables false
set_option linter.unusedSimpArgs false
section
variable {X : Cx} {st : List It} {l : L} {own : List Blk} {h0 : Heap}
theorem rg {E : Env} {g : Bool} {op : Op} {v : Value} (h : g = true → RV E l own h0 g op v) : RV E l own h0 g op v := fun fr h' hf ag hs q => h q fr h' hf ag hs q
theorem go_perm {own' : List Blk} (s : own.Perm own') (k : Goes X st l own' h0) : Goes X st l own h0 := fun fr h hf ag hs => k fr h hf ag (hs.perm s)
theorem Goes.back {h1 : Heap} (e : HExt h0 h1) (k : Goes X st l own h0) : Goes X st l own h1 := fun fr h hf ag hs => k fr h hf ag (hs.back e)
def AccT (elem : TypeId) (tl : List Blk) (v : Value) (rows : List (List Value)) : Prop :=
 (rows = [] ∧ v = .slice none 0 0 ∧ tl = []) ∨ ∃ b, v = .slice (some ⟨b, 0, some 0⟩) rows.length rows.length ∧ tl = [⟨b, .cells rows.flatten elem⟩]
theorem AccT.nil (elem : TypeId) : AccT elem [] (.slice none 0 0) [] := .inl ⟨rfl, rfl, rfl⟩
theorem AccT.len {elem : TypeId} {tl : List Blk} {v : Value} {rows : List (List Value)} (a : AccT elem tl v rows) : ∃ p, v = .slice p rows.length rows.length := by
 rcases a with ⟨h1, h2, h3⟩ | ⟨b, h1, h2⟩
 ·
  subst h1; exact ⟨none, h2⟩
 ·
  exact ⟨_, h1⟩
theorem flat_len {k : Nat} {rows : List (List Value)} (h : ∀ r ∈ rows, r.length = k) : rows.flatten.length = rows.length * k := by
 induction rows with
 | nil => simp
 | cons r rows ih =>
  rw [List.flatten_cons, List.length_append, h r List.mem_cons_self, ih (fun x hx => h x (List.mem_cons_of_mem _ hx)), List.length_cons, Nat.succ_mul, Nat.add_comm]
variable {r : Array Oper} {os : List Oper} {d : Nat} {ty : TypeId} {pos : String} {aft : Array Edge}
end
end Go.Proofs.YtokfjifeofpkkaaGreat.V
namespace Go.Proofs.YtokfjifeofpkkaaGreat.V
open Go
set_option linter.unusedVariables false
set_option linter.unusedSimpArgs false
theorem flat_at {k : Nat} {q : List Value} : ∀ (rows : List (List Value)) (i : Nat), (∀ q ∈ rows, q.length = k) → rows[i]? = some q → i * k + k ≤ rows.flatten.length ∧ (rows.flatten.drop (i * k)).take k = q := by
 intro rows
 induction rows with
 | nil => intro i _ hq; simp at hq
 | cons x rows ih =>
  intro i hr hq
  have hx := hr x List.mem_cons_self
  cases i with
  | zero =>
   have : x = q := by simpa using hq
   subst this
   refine ⟨by rw [List.flatten_cons, List.length_append]; omega, ?_⟩
   rw [Nat.zero_mul, List.drop_zero, List.flatten_cons, ← hx, List.take_left']
   rfl
  | succ i =>
   obtain ⟨g1, g2⟩ := ih i (fun y hy => hr y (List.mem_cons_of_mem _ hy)) (by simpa using hq)
   refine ⟨by rw [List.flatten_cons, List.length_append, Nat.succ_mul]; omega, ?_⟩
   rw [List.flatten_cons, List.drop_append, List.drop_eq_nil_of_le (by rw [Nat.succ_mul]; omega), List.nil_append, show (i + 1) * k - x.length = i * k by rw [Nat.succ_mul]; omega]
   exact g2
end Go.Proofs.YtokfjifeofpkkaaGreat.V
namespace Go.Proofs.YtokfjifeofpkkaaGreat.V
open Go
set_option linter.unusedVariables false
set_option linter.unusedSimpArgs false
structure Rep (α : Type) where
 k : Nat
 T : Nat
 C : Heap → List Value → α → Prop
 mono : ∀ {h h' cs x}, Kn h h' → C h cs x → C h' cs x
 len : ∀ {h cs x}, C h cs x → cs.length = k
 ok : ∀ {h cs x}, C h cs x → cs.all cellOk = true
def Rep.flat {α : Type} (k T : Nat) (c : α → List Value) (hc : ∀ x, (c x).length = k ∧ (c x).all cellOk = true) : Rep α :=
 ⟨k, T, fun _ cs x => cs = c x, fun _ e => e, fun e => by rw [e]; exact (hc _).1, fun e => by rw [e]; exact (hc _).2⟩
def RL {α : Type} (R : Rep α) (h : Heap) (a : Option Addr) (c : Nat) (xs : List α) : Prop :=
 xs.length < 9223372036854775808 ∧ xs.length ≤ c ∧ (∀ (i : Nat) (x : α), xs[i]? = some x → ∃ a0 a' row, a = some a0 ∧ elemAddr a0 (i * R.k) = some a' ∧ cellsAt h a' R.k = some row ∧ R.C h row x) ∧
  (∀ a0, a = some a0 → a0.spot = some 0 → ∃ cs, h.get a0.block = some (.cells cs R.T))
theorem RL.nil {α : Type} (R : Rep α) (h : Heap) (c : Nat) : RL R h none c [] := ⟨by simp, Nat.zero_le _, fun i x hx => by simp at hx, fun a0 e => by cases e⟩
theorem RL.ext {α : Type} {R : Rep α} {h h' : Heap} {a : Option Addr} {c : Nat} {xs : List α} (s : RL R h a c xs) (e : Kn h h') : RL R h' a c xs :=
 ⟨s.1, s.2.1, fun i x hx => by
  obtain ⟨a0, a', row, h1, h2, h3, h4⟩ := s.2.2.1 i x hx
  exact ⟨a0, a', row, h1, h2, e.cellsAt h3, R.mono e h4⟩, fun a0 h1 h2 => by
  obtain ⟨cs, hc⟩ := s.2.2.2 a0 h1 h2
  exact ⟨cs, e.get _ _ hc (by intro q; cases q)⟩⟩
def Rep.sl {α : Type} (R : Rep α) (T : Nat) : Rep (List α) where
 k := 1
 T := T
 C := fun h cs x => ∃ a c, cs = [.slice a x.length c] ∧ RL R h a c x
 mono := fun e ⟨a, c, h1, h2⟩ => ⟨a, c, h1, h2.ext e⟩
 len := fun ⟨_, _, h1, _⟩ => by rw [h1]; rfl
 ok := fun ⟨_, _, h1, _⟩ => by rw [h1]; rfl
def RS_ (T : Nat) : Rep ByteArray := Rep.flat 1 T (fun x => [.string x]) (fun _ => ⟨rfl, rfl⟩)
def RI_ (k : IntKind) (T : Nat) : Rep Int := Rep.flat 1 T (fun x => [.int k x]) (fun _ => ⟨rfl, rfl⟩)
def getI {α : Type} (l : List α) (i : Int) : Option α := if 0 ≤ i then l[i.toNat]? else none
theorem getI_some {α : Type} {l : List α} {i : Int} {x : α} (h : getI l i = some x) : ∃ j : Nat, i = (j : Int) ∧ l[j]? = some x ∧ j < l.length := by
 unfold getI at h
 split at h
 ·
  rename_i q
  refine ⟨i.toNat, by omega, h, ?_⟩
  rcases Nat.lt_or_ge i.toNat l.length with r | r
  ·
   exact r
  ·
   rw [List.getElem?_eq_none r] at h; cases h
 ·
  cases h
def lessB (x y : ByteArray) : Bool := Op.bytesLess x.toList y.toList
def eqB (x y : ByteArray) : Bool := x.toList == y.toList
def maxS (x y : ByteArray) : ByteArray := if !lessB x y then x else y
def idxS (x : ByteArray) (i : Int) : Option Int := if 0 ≤ i then match x[i.toNat]? with | some b => some (b.toNat : Int) | none => none else none
theorem idxS_ok {E : Env} {t : TypeId} {ik : IntKind} {x : ByteArray} {i z : Int} (hu : E.P.underlying t = some .string) (h : idxS x i = some z) : indexV E t (.string x) (.int ik i) = some (.int .u8 z) := by
 unfold idxS at h
 split at h
 ·
  rename_i q
  split at h
  ·
   rename_i b hb
   cases h
   unfold indexV; dsimp only; rw [hu]; dsimp only; rw [if_pos q, hb]
  ·
   cases h
 ·
  cases h
def subS (x : ByteArray) (l h : Int) : Option ByteArray := if 0 ≤ l ∧ l ≤ h ∧ h ≤ (x.size : Int) then some (x.extract l.toNat h.toNat) else none
theorem subS_both {E : Env} {hp : Heap} {t : TypeId} {x z : ByteArray} {l h : Int} {ik ik' : IntKind} (hu : E.P.underlying t = some .string) (hs : subS x l h = some z) : sliceV E hp t (.string x) (some (.int ik l)) (some (.int ik' h)) none = some (.string z) := by
 unfold subS at hs
 split at hs
 ·
  rename_i q
  cases hs
  unfold sliceV; rw [hu]; dsimp only
  simp only [boundV]
  rw [if_pos ⟨by omega, q.2.2⟩]; dsimp only
  rw [if_pos ⟨q.1, by omega⟩]
 ·
  cases hs
theorem subS_lo {E : Env} {hp : Heap} {t : TypeId} {x z : ByteArray} {l : Int} {ik : IntKind} (hu : E.P.underlying t = some .string) (hs : subS x l (x.size : Int) = some z) : sliceV E hp t (.string x) (some (.int ik l)) none none = some (.string z) := by
 unfold subS at hs
 split at hs
 ·
  rename_i q
  cases hs
  unfold sliceV; rw [hu]; dsimp only
  simp only [boundV]
  rw [if_pos ⟨q.1, by omega⟩]; rfl
 ·
  cases hs
theorem subS_hi {E : Env} {hp : Heap} {t : TypeId} {x z : ByteArray} {h : Int} {ik : IntKind} (hu : E.P.underlying t = some .string) (hs : subS x 0 h = some z) : sliceV E hp t (.string x) none (some (.int ik h)) none = some (.string z) := by
 unfold subS at hs
 split at hs
 ·
  rename_i q
  cases hs
  unfold sliceV; rw [hu]; dsimp only
  simp only [boundV]
  rw [if_pos ⟨by omega, q.2.2⟩]; rfl
 ·
  cases hs
theorem obind {α β : Type} {o : Option α} {k : α → Option β} {r : β} (h : o.bind k = some r) : ∃ x, o = some x ∧ k x = some r := by
 cases o with
 | none => cases h
 | some x => exact ⟨x, rfl, h⟩
theorem ifT {α : Type} {c : Bool} {A B : Option α} {r : α} (hc : c = true) (h : (if c = true then A else B) = some r) : A = some r := by rw [if_pos hc] at h; exact h
theorem ifF {α : Type} {c : Bool} {A B : Option α} {r : α} (hc : c = false) (h : (if c = true then A else B) = some r) : B = some r := by rw [hc] at h; exact h
theorem someI {α : Type} {a b : α} (h : some a = some b) : b = a := (Option.some.inj h).symm
inductive Lp (α β : Type) where
 | go (s : α)
 | out (r : β)
section
variable {X : Cx} {st : List It} {l : L} {own : List Blk} {h0 : Heap}
variable {r : Array Oper} {q : Bool} {os : List Oper} {d : Nat} {ty : TypeId} {pos : String} {aft : Array Edge}
theorem r_pkT {E : Env} {g : Bool} {c a e : Operand} {y : Value} (hc : OP l g c (.bool true)) (ha : OP l g a y) : RV E l own h0 g (.pick c a e) y := by
 intro fr h hf ag _ q
 unfold readV; dsimp only
 rw [hc fr ag q]
 exact ha fr ag q
theorem r_pkF {E : Env} {g : Bool} {c a e : Operand} {y : Value} (hc : OP l g c (.bool false)) (ha : OP l g e y) : RV E l own h0 g (.pick c a e) y := by
 intro fr h hf ag _ q
 unfold readV; dsimp only
 rw [hc fr ag q]
 exact ha fr ag q
theorem gM {t : Nat} {v : Value} (hn : Nat.blt d X.nt = true) (h : lk l t = some (true, v)) (k : Goes X (.ops r q os :: st) ((d, true, v) :: l) own h0) :
 Goes X (.ops r q (⟨some d, .move (.tmp t), ty, pos, aft, none⟩ :: os) :: st) l own h0 := gr hn (r_move (ot h)) k
theorem gA {t : Nat} {v : Value} (hn : Nat.blt d X.nt = true) (h : lk l t = some (true, v)) (k : Goes X (.ops r q os :: st) ((d, true, v) :: l) own h0) :
 Goes X (.ops r q (⟨some d, .assign (.tmp t), ty, pos, aft, none⟩ :: os) :: st) l own h0 := gr hn (r_assign (ot h)) k
theorem gAc {v : Value} (hn : Nat.blt d X.nt = true) (h : plainN 4 v = true) (k : Goes X (.ops r q os :: st) ((d, true, v) :: l) own h0) :
 Goes X (.ops r q (⟨some d, .assign (.const v), ty, pos, aft, none⟩ :: os) :: st) l own h0 := gr hn (r_assign (oc h)) k
theorem go_re (t : Nat) {g : Bool} {v v2 : Value} (h : lk l t = some (g, v)) (e : v = v2) (k : Goes X st ((t, g, v2) :: l) own h0) : Goes X st l own h0 := by
 subst e
 refine Goes.weak k ?_
 intro t' g' v' hl
 unfold lk at hl
 cases e : Nat.beq t t' with
 | true =>
  rw [e] at hl
  have := Nat.eq_of_beq_eq_true e
  subst this
  simp only [cond_true, Option.some.injEq, Prod.mk.injEq] at hl
  obtain ⟨h1, h2⟩ := hl
  subst h1 h2; exact h
 | false => rw [e] at hl; exact hl
theorem wanted_none {ops : Array Oper} {fr : Fr} {o : Oper} (h : o.guard = none) : wantedV ops fr o = true := by unfold wantedV; rw [h]
theorem g_do {j dj : Nat} {w : Bool} {dst : Option Nat} {op : Op} {oj : Oper} (hj : r[j]? = some oj) (hd : oj.dst = some dj) (hl : lk l dj = some (true, .bool w))
 (k : Goes X (.ops r q (⟨dst, op, ty, pos, aft, none⟩ :: os) :: st) l own h0) : Goes X (.ops r q (⟨dst, op, ty, pos, aft, some (j, w)⟩ :: os) :: st) l own h0 := by
 intro fr h hf ag hs
 refine Dn.of_eq (fun n => ?_) (k fr h hf ag hs)
 have h1 := wanted_t (o := ⟨dst, op, ty, pos, aft, some (j, w)⟩) rfl hj hd hl fr ag
 have h2 : wantedV r fr ⟨dst, op, ty, pos, aft, none⟩ = true := wanted_none rfl
 have h1' : wantedV r fr ⟨dst, op, ty, pos, aft, some (j, w)⟩ = true := by rw [h1]; cases w <;> rfl
 simp only [exec, stepIt]
 cases q
 ·
  simp only [cond_false, runOps, h1', h2]
 ·
  simp only [cond_true, runQuiet, h1', h2]
theorem g_no {j dj : Nat} {w b g : Bool} {op : Op} {oj : Oper} (hn : Nat.blt d X.nt = true) (hj : r[j]? = some oj) (hd : oj.dst = some dj) (hl : lk l dj = some (g, .bool b)) (hw : (g && (b == w)) = false)
 (k : Goes X (.ops r q os :: st) ((d, false, undef) :: l) own h0) : Goes X (.ops r q (⟨some d, op, ty, pos, aft, some (j, w)⟩ :: os) :: st) l own h0 := by
 intro fr h hf ag hs
 refine Dn.of_eq (fun n => ?_) (k _ h hf (ag.set d false undef) hs)
 have h1 : wantedV r fr ⟨some d, op, ty, pos, aft, some (j, w)⟩ = false := by rw [wanted_t rfl hj hd hl fr ag]; exact hw
 simp only [exec, stepIt]
 cases q
 ·
  simp only [cond_false, runOps, h1, Fr.put, hn, cond_true]
 ·
  simp only [cond_true, runQuiet, h1, cond_false, Fr.put, hn]
def BK (h : Heap) (b : Nat) (cs : List Value) (T : TypeId) : Prop := h.get b = some (.cells cs T)
theorem BK.ext {h h' : Heap} {b : Nat} {cs : List Value} {T : TypeId} (g : BK h b cs T) (e : Kn h h') : BK h' b cs T := e.get b _ g (by intro e; cases e)
theorem go_joinr (n : Nat) {β : Type} (P : β → Heap → Prop) (lj : β → L) (oj : β → List Blk)
 (hJ : ∀ s h', HExt h0 h' → Wf h' → P s h' → Goes X (.ops r q (os.drop n) :: st) (lj s) (oj s) h')
 (k : (∀ s h', HExt h0 h' → Wf h' → P s h' → Goes X (.ops r q (os.drop n) :: st) (lj s) (oj s) h') → Goes X (.ops r q os :: st) l own h0) : Goes X (.ops r q os :: st) l own h0 := k hJ
structure Rws {α : Type} (R : Rep α) (h : Heap) (rows : List (List Value)) (xs : List α) : Prop where
 len : rows.length = xs.length
 C : ∀ (i : Nat) (row : List Value) (x : α), rows[i]? = some row → xs[i]? = some x → R.C h row x
namespace Rws
variable {α : Type} {R : Rep α} {h h' : Heap} {rows rows2 : List (List Value)} {xs ys : List α}
theorem nil : Rws R h [] [] := ⟨rfl, fun i row x hr _ => by simp at hr⟩
theorem one {row : List Value} {x : α} (c : R.C h row x) : Rws R h [row] [x] := ⟨rfl, fun i r y hr hy => by
 cases i with
 | zero => cases hr; cases hy; exact c
 | succ i => simp at hr⟩
theorem cons {row : List Value} {x : α} (c : R.C h row x) (t : Rws R h rows xs) : Rws R h (row :: rows) (x :: xs) := ⟨by simp [t.len], fun i r y hr hy => by
 cases i with
 | zero => cases hr; cases hy; exact c
 | succ i => exact t.C i r y (by simpa using hr) (by simpa using hy)⟩
theorem ext (s : Rws R h rows xs) (e : Kn h h') : Rws R h' rows xs := ⟨s.len, fun i row x a b => R.mono e (s.C i row x a b)⟩
theorem at_ (s : Rws R h rows xs) {row : List Value} (hr : row ∈ rows) : ∃ x, R.C h row x := by
 obtain ⟨i, hi⟩ := List.mem_iff_getElem?.mp hr
 have : i < xs.length := by
  rw [← s.len]
  rcases Nat.lt_or_ge i rows.length with q | q
  ·
   exact q
  ·
   rw [List.getElem?_eq_none q] at hi; cases hi
 exact ⟨_, s.C i row _ hi (List.getElem?_eq_getElem this)⟩
theorem k (s : Rws R h rows xs) : ∀ row ∈ rows, row.length = R.k := fun row hr => by obtain ⟨x, hx⟩ := s.at_ hr; exact R.len hx
theorem all (s : Rws R h rows xs) : rows.flatten.all cellOk = true := by
 rw [List.all_eq_true]
 intro v hv
 obtain ⟨row, hr, hv⟩ := List.mem_flatten.mp hv
 obtain ⟨x, hx⟩ := s.at_ hr
 exact List.all_eq_true.mp (R.ok hx) v hv
theorem flen (s : Rws R h rows xs) : rows.flatten.length = xs.length * R.k := by rw [flat_len s.k, s.len]
end Rws
theorem RL.of_blk {α : Type} {R : Rep α} {h : Heap} {b : Nat} {T : TypeId} {cs : List Value} {rows : List (List Value)} {xs : List α} {sp : Option Nat} (hsp : sp = none ∨ sp = some 0) (hb : h.get b = some (.cells cs T)) (hc : cs = rows.flatten) (s : Rws R h rows xs) (hl : xs.length < 9223372036854775808) {c : Nat} (hcap : xs.length ≤ c) (hT : T = R.T) :
 RL R h (some ⟨b, 0, sp⟩) c xs := by
 subst hc hT
 refine ⟨hl, hcap, fun i x hx => ?_, fun a0 h1 h2 => by cases h1; exact ⟨_, hb⟩⟩
 have hi : i < rows.length := by
  rw [s.len]
  rcases Nat.lt_or_ge i xs.length with q | q
  ·
   exact q
  ·
   rw [List.getElem?_eq_none q] at hx; cases hx
 have hr := List.getElem?_eq_getElem hi
 obtain ⟨g1, g2⟩ := flat_at rows i s.k hr
 refine ⟨_, ⟨b, 0 + i * R.k, none⟩, rows[i], rfl, ?_, ?_, s.C i _ x hr hx⟩
 ·
  rcases hsp with e | e <;> subst e <;> rfl
 ·
  unfold cellsAt; dsimp only; rw [hb]; dsimp only
  rw [Nat.zero_add, Nat.ble_eq_true_of_le g1, g2]; rfl
theorem RL.first {α : Type} {R : Rep α} {h : Heap} {a : Option Addr} {c : Nat} {xs : List α} (s : RL R h a c xs) (hk : 0 < R.k) :
 ∃ rows, Rws R h rows xs ∧ firstV h R.k xs.length (.slice a xs.length c) = some rows.flatten := by
 have hex : ∀ i, i < xs.length → ∃ row, ∃ a0 a', a = some a0 ∧ elemAddr a0 (i * R.k) = some a' ∧ cellsAt h a' R.k = some row ∧ ∀ x, xs[i]? = some x → R.C h row x := by
  intro i hi
  obtain ⟨a0, a', row, h1, h2, h3, h4⟩ := s.2.2.1 i _ (List.getElem?_eq_getElem hi)
  refine ⟨row, a0, a', h1, h2, h3, fun x hx => ?_⟩
  rw [List.getElem?_eq_getElem hi] at hx; cases hx; exact h4
 have build : ∀ n, n ≤ xs.length → ∃ rows : List (List Value), rows.length = n ∧ ∀ i row, rows[i]? = some row → ∃ a0 a', a = some a0 ∧ elemAddr a0 (i * R.k) = some a' ∧ cellsAt h a' R.k = some row ∧ ∀ x, xs[i]? = some x → R.C h row x := by
  intro n
  induction n with
  | zero => intro _; exact ⟨[], rfl, fun i row hr => by simp at hr⟩
  | succ n ih =>
   intro hn
   obtain ⟨rows, h1, h2⟩ := ih (by omega)
   obtain ⟨row, hrow⟩ := hex n (by omega)
   refine ⟨rows ++ [row], by simp [h1], fun i r hr => ?_⟩
   rw [List.getElem?_append] at hr
   split at hr
   ·
    exact h2 i r hr
   ·
    have : i - rows.length = 0 := by
     cases e : i - rows.length with
     | zero => rfl
     | succ j => rw [e] at hr; simp at hr
    rw [this] at hr
    have hi : i = n := by omega
    cases hr; subst hi; exact hrow
 obtain ⟨rows, h1, h2⟩ := build xs.length (Nat.le_refl _)
 have hw : Rws R h rows xs := ⟨h1, fun i row x hr hx => by obtain ⟨_, _, _, _, _, h⟩ := h2 i row hr; exact h x hx⟩
 refine ⟨rows, hw, ?_⟩
 unfold firstV
 cases a with
 | none =>
  have : rows = [] := by
   cases rows with
   | nil => rfl
   | cons r rs => obtain ⟨a0, _, e, _⟩ := h2 0 r rfl; cases e
  subst this; rfl
 | some a0 =>
  dsimp only
  cases e0 : Nat.beq (xs.length * R.k) 0 with
  | true =>
   have : rows = [] := by
    have := Nat.eq_of_beq_eq_true e0
    have : xs.length = 0 := by
     rcases Nat.mul_eq_zero.mp this with q | q
     ·
      exact q
     ·
      omega
    exact List.length_eq_zero_iff.mp (by omega)
   subst this; rfl
  | false =>
   simp only [cond_false]
   have hpos : 0 < xs.length := by
    rcases Nat.eq_zero_or_pos xs.length with q | q
    ·
     rw [q, Nat.zero_mul] at e0; cases e0
    ·
     exact q
   obtain ⟨b, o, sp⟩ := a0
   have hel : ∀ i row, rows[i]? = some row → ∃ sp', elemAddr ⟨b, o, sp⟩ 0 = some ⟨b, o, sp'⟩ ∧ cellsAt h ⟨b, o + i * R.k, sp'⟩ R.k = some row := by
    intro i row hr
    obtain ⟨a0, a', ea, e1, e2, _⟩ := h2 i row hr
    cases ea
    unfold elemAddr at e1 ⊢
    dsimp only at e1 ⊢
    split at e1
    ·
     cases e1; exact ⟨none, rfl, e2⟩
    ·
     cases e1; exact ⟨none, rfl, e2⟩
    ·
     cases e1; exact ⟨some 1, rfl, e2⟩
    ·
     cases e1
   obtain ⟨sp', hsp, _⟩ := hel 0 rows[0] (List.getElem?_eq_getElem (by omega))
   rw [hsp]; dsimp only
   have hel2 : ∀ i row, rows[i]? = some row → cellsAt h ⟨b, o + i * R.k, sp'⟩ R.k = some row := by
    intro i row hr
    obtain ⟨sp2, e1, e2⟩ := hel i row hr
    rw [hsp] at e1; cases e1; exact e2
   have hrk : ∀ row ∈ rows, row.length = R.k := hw.k
   have gen : ∀ (rows : List (List Value)) (o : Nat), rows ≠ [] → (∀ i row, rows[i]? = some row → cellsAt h ⟨b, o + i * R.k, sp'⟩ R.k = some row) → cellsAt h ⟨b, o, sp'⟩ (rows.length * R.k) = some rows.flatten := by
    intro rows
    induction rows with
    | nil => intro o hne; exact absurd rfl hne
    | cons r rs ih =>
     intro o _ hr
     have h0 := hr 0 r rfl
     rw [Nat.zero_mul, Nat.add_zero] at h0
     cases rs with
     | nil => simpa using h0
     | cons r2 rs =>
      have hi := ih (o + R.k) (by simp) (fun i row hrow => by
       have := hr (i + 1) row (by simpa using hrow)
       rw [Nat.succ_mul] at this
       rw [show o + R.k + i * R.k = o + (i * R.k + R.k) by omega]; exact this)
      generalize (r2 :: rs) = rs at hi
      rw [List.flatten_cons, List.length_cons, Nat.succ_mul]
      clear ih hr
      unfold cellsAt at h0 hi ⊢
      cases sp' with
      | none =>
       dsimp only at h0 hi ⊢
       split at h0
       ·
        rename_i c T hg
        simp only [hg] at hi ⊢
        cases q1 : Nat.ble (o + R.k) c.length with
        | false => rw [q1] at h0; cases h0
        | true =>
         cases q2 : Nat.ble (o + R.k + rs.length * R.k) c.length with
         | false => rw [q2] at hi; cases hi
         | true =>
          rw [q1] at h0; rw [q2] at hi
          cases h0
          have n2 := Nat.le_of_ble_eq_true q2
          rw [Nat.ble_eq_true_of_le (show o + (rs.length * R.k + R.k) ≤ c.length by omega)]
          simp only [cond_true, Option.some.injEq] at hi ⊢
          rw [← hi, Nat.add_comm (rs.length * R.k), List.take_add, List.drop_drop]
       ·
        cases h0
      | some s =>
       cases s with
       | zero => cases h0
       | succ s =>
        cases s with
        | succ s => cases h0
        | zero =>
         dsimp only at h0 hi ⊢
         have add : ∀ (n m o : Nat) (x y : List Value), baseCells h b o n = some x → baseCells h b (o + n) m = some y → baseCells h b o (n + m) = some (x ++ y) := by
          intro n
          induction n with
          | zero => intro m o x y hx hy; cases hx; rw [Nat.zero_add]; simpa using hy
          | succ n ih =>
           intro m o x y hx hy
           unfold baseCells at hx
           split at hx
           ·
            rename_i v hv
            split at hx
            ·
             rename_i x' hx'
             cases hx
             have := ih m (o + 1) x' y hx' (by rw [show o + 1 + n = o + (n + 1) by omega]; exact hy)
             rw [show n + 1 + m = (n + m) + 1 by omega]
             unfold baseCells
             rw [hv]; dsimp only; rw [this]; rfl
            ·
             cases hx
           ·
            cases hx
         rw [Nat.add_comm (rs.length * R.k) R.k]; exact add _ _ _ _ _ h0 hi
   rw [← h1]
   exact gen rows o (by intro e; subst e; simp at h1; omega) hel2
structure SubOK {α : Type} (R : Rep α) (E : Env) (h : Heap) (t : TypeId) (a : Option Addr) (xs ys : List α) (c : Nat) (l u : Int) (a' : Option Addr) (c' : Nat) : Prop where
 both : ∀ {hf : Heap} {ik ik' : IntKind}, Kn h hf → sliceV E hf t (.slice a xs.length c) (some (.int ik l)) (some (.int ik' u)) none = some (.slice a' ys.length c')
 lo : ∀ {hf : Heap} {ik : IntKind}, Kn h hf → u = (xs.length : Int) → sliceV E hf t (.slice a xs.length c) (some (.int ik l)) none none = some (.slice a' ys.length c')
 hi : ∀ {hf : Heap} {ik : IntKind}, Kn h hf → l = 0 → sliceV E hf t (.slice a xs.length c) none (some (.int ik u)) none = some (.slice a' ys.length c')
 full : ∀ {hf : Heap}, Kn h hf → l = 0 → u = (xs.length : Int) → sliceV E hf t (.slice a xs.length c) none none none = some (.slice a' ys.length c')
 rl : RL R h a' c' ys
def AccR {α : Type} (R : Rep α) (elem : TypeId) (h : Heap) (tl : List Blk) (v : Value) (xs : List α) : Prop :=
 xs.length < 9223372036854775808 ∧ ((xs = [] ∧ (∃ a, v = .slice a 0 0 ∧ ∀ a0, a = some a0 → a0.spot = none) ∧ tl = []) ∨ ∃ b rows, v = .slice (some ⟨b, 0, some 0⟩) xs.length xs.length ∧ tl = [⟨b, .cells rows.flatten elem⟩] ∧ Rws R h rows xs)
theorem AccR.nil {α : Type} (R : Rep α) (elem : TypeId) (h : Heap) : AccR R elem h [] (.slice none 0 0) [] := ⟨by simp, .inl ⟨rfl, ⟨none, rfl, fun _ h => by cases h⟩, rfl⟩⟩
theorem AccR.ext {α : Type} {R : Rep α} {elem : TypeId} {h h' : Heap} {tl : List Blk} {v : Value} {xs : List α} (a : AccR R elem h tl v xs) (e : Kn h h') : AccR R elem h' tl v xs := by
 obtain ⟨h1, h2 | ⟨b, rows, h2, h3, h4⟩⟩ := a
 ·
  exact ⟨h1, .inl h2⟩
 ·
  exact ⟨h1, .inr ⟨b, rows, h2, h3, h4.ext e⟩⟩
theorem Kn.firstV {h h' : Heap} (e : Kn h h') {k n : Nat} {x : Value} {l : List Value} (hc : firstV h k n x = some l) : V.firstV h' k n x = some l := by
 unfold V.firstV at hc ⊢
 split at hc
 ·
  rename_i a _ _
  cases e0 : Nat.beq (n * k) 0 with
  | true => rw [e0] at hc; exact hc
  | false =>
   rw [e0] at hc
   simp only [cond_false] at hc ⊢
   split at hc
   ·
    exact e.cellsAt hc
   ·
    cases hc
 ·
  exact hc
 ·
  exact hc
 ·
  cases hc
end
end Go.Proofs.YtokfjifeofpkkaaGreat.V
namespace Go.Proofs.YtokfjifeofpkkaaGreat.V
open Go
set_option linter.unusedVariables false
set_option linter.unusedSimpArgs false
def shlI (k : IntKind) (a b : Int) : Int := k.wrap (a * 2 ^ (min b.toNat k.bits))
def orI (k : IntKind) (a b : Int) : Int := k.wrap (BitVec.ofInt k.bits a ||| BitVec.ofInt k.bits b).toNat
def mfind {K V : Type} [DecidableEq K] : List (K × V) → K → Nat → Option (Nat × V)
 | [], _, _ => none
 | e :: r, k, i => if k = e.1 then some (i, e.2) else mfind r k (i + 1)
def mget {K V : Type} [DecidableEq K] (es : List (K × V)) (k : K) : Option V := (mfind es k 0).map Prod.snd
def mset {K V : Type} [DecidableEq K] (es : List (K × V)) (k : K) (v : V) : List (K × V) := match mfind es k 0 with
 | some p => es.set p.1 (k, v)
 | none => es ++ [(k, v)]
section
variable {X : Cx} {st : List It} {l : L} {own : List Blk} {h0 : Heap}
variable {r : Array Oper} {q : Bool} {os : List Oper} {d : Nat} {ty : TypeId} {pos : String} {aft : Array Edge}
end
end Go.Proofs.YtokfjifeofpkkaaGreat.V
namespace Go.Proofs.YtokfjifeofpkkaaGreat.V
open Go
set_option linter.unusedVariables false
set_option linter.unusedSimpArgs false
def okI (k : IntKind) (x : Int) : Prop := (Lit.int k x).wf = true
section
variable {H : Type} {enc : TypeId × Value → H} {P : Program} {W : World} {spare : Nat → Bool} {held : Bool}
def OpenT {α : Type} (enc : TypeId × Value → H) (P : Program) (W : World) (spare : Nat → Bool) (held : Bool) (t : TypeId) (R : Rep α) (ok : α → Prop) : Prop :=
 ∀ fuel cs y, DataW.trod enc P W 0 spare held fuel t cs = some y → ∃ a : α, R.C (heap0 W) (cs.map flagS) a ∧ cs.all okC = true ∧ ok a
theorem open_int {t : TypeId} {k : IntKind} (ht : P.underlying t = some (.int k)) {T : Nat} : OpenT enc P W spare held t (RI_ k T) (okI k) := by
 intro fuel cs y h
 obtain ⟨x, e, _, w⟩ := DataW.trod_int ht h
 subst e
 exact ⟨x, rfl, rfl, w⟩
end
end Go.Proofs.YtokfjifeofpkkaaGreat.V
namespace Go.Proofs.YtokfjifeofpkkaaGreat.V
open Go
set_option linter.unusedVariables false
set_option linter.unusedSimpArgs false
def okR (r : Option (Value × Heap)) : Bool := match r with | some (.bool b, _) => b | _ => false
theorem law_run {E : Env} (hE : SideOK E) {f : FuncId} {args : List Value} {args' : Array Value} {W : World} (ha : ∀ β, VRs β args args'.toList) {n : Nat}
 (hr : okR (run E n f args (heap0 W)) = true) : Calls E.P f args' W (fun e w' => e = .returned (.bool true) ∧ RowKit.Below W.heap.size W w') := by
 have hrun : ∃ h', run E n f args (heap0 W) = some (.bool true, h') := by
  cases e : run E n f args (heap0 W) with
  | none => rw [e] at hr; cases hr
  | some p =>
   obtain ⟨v, h'⟩ := p
   rw [e] at hr
   cases v <;> first | (cases hr; done) | skip
   rename_i b
   have : b = true := hr
   subst this
   exact ⟨h', rfl⟩
 obtain ⟨h', hrun⟩ := hrun
 refine (run_ok hE n f args _ _ _ hrun _ _ W args' (sim0 E.P W) (ha _)).mono ?_
 rintro e w' ⟨v', β', rfl, _, _, hv, hf, _⟩
 cases hv
 exact ⟨rfl, hf.os, hf.tape, hf.output, hf.size, fun k hk => hf.block k (Nat.not_le.mpr hk)⟩
theorem pf (pre post : List (List Blk)) (s : List Blk) : (pre ++ s :: post).flatten.Perm (s ++ (pre ++ post).flatten) := by
 rw [List.flatten_append, List.flatten_cons, List.flatten_append]
 exact List.perm_append_comm_assoc _ _ _
inductive SetSeg (s s' : List Blk) : List (List Blk) → List (List Blk) → Prop
 | z {r : List (List Blk)} : SetSeg s s' (s :: r) (s' :: r)
 | s {a : List Blk} {r r' : List (List Blk)} (h : SetSeg s s' r r') : SetSeg s s' (a :: r) (a :: r')
inductive DelSeg (s : List Blk) : List (List Blk) → List (List Blk) → Prop
 | z {r : List (List Blk)} : DelSeg s (s :: r) r
 | s {a : List Blk} {r r' : List (List Blk)} (h : DelSeg s r r') : DelSeg s (a :: r) (a :: r')
theorem SetSeg.pp {s s' : List Blk} {a b : List (List Blk)} (h : SetSeg s s' a b) : ∃ pre post, a = pre ++ s :: post ∧ b = pre ++ s' :: post := by
 induction h with
 | z => exact ⟨[], _, rfl, rfl⟩
 | s h ih => obtain ⟨pre, post, h1, h2⟩ := ih; exact ⟨_ :: pre, post, by rw [h1]; rfl, by rw [h2]; rfl⟩
theorem DelSeg.pp {s : List Blk} {a b : List (List Blk)} (h : DelSeg s a b) : ∃ pre post, a = pre ++ s :: post ∧ b = pre ++ post := by
 induction h with
 | z => exact ⟨[], _, rfl, rfl⟩
 | s h ih => obtain ⟨pre, post, h1, h2⟩ := ih; exact ⟨_ :: pre, post, by rw [h1]; rfl, by rw [h2]; rfl⟩
theorem mem_seg {segs : List (List Blk)} (i : Nat) {e : Blk} (h : segs[i]? = some [e]) : e ∈ segs.flatten :=
 List.mem_flatten.mpr ⟨[e], List.mem_of_getElem? h, List.mem_singleton.mpr rfl⟩
section
variable {E : Env} {l : L} {own : List Blk} {h0 : Heap} {g : Bool}
theorem lm_s {t T : TypeId} {b off : Nat} {cs : List Value} {v : Value} (hi : (⟨b, .cells cs T⟩ : Blk) ∈ own) (ht : isAggT E.P t = some false) (hv : cs[off]? = some v) : Lo E own h0 t ⟨b, off, none⟩ v := by
 intro h hf hs
 have := (hs.blk _ hi).1
 dsimp only at this
 simp only [loadV, ht, cellAt, this]; exact hv
theorem lm_a {t T : TypeId} {b off k : Nat} {cs vs : List Value} (hi : (⟨b, .cells cs T⟩ : Blk) ∈ own) (ht : isAggT E.P t = some true) (hz : sz E.P t = some k) (hl : Nat.ble (off + k) cs.length = true)
 (hv : (cs.drop off).take k = vs) : Lo E own h0 t ⟨b, off, none⟩ (.agg vs.toArray) := by
 intro h hf hs
 have := (hs.blk _ hi).1
 dsimp only at this
 simp only [loadV, ht, hz, cellsAt, this, hl, cond_true, hv]
theorem lm_w {t T : TypeId} {b k : Nat} {cs : List Value} (hi : (⟨b, .cells cs T⟩ : Blk) ∈ own) (ht : isAggT E.P t = some true) (hz : sz E.P t = some k) (hl : cs.length = k) : Lo E own h0 t ⟨b, 0, none⟩ (.agg cs.toArray) := by
 intro h hf hs
 have := (hs.blk _ hi).1
 dsimp only at this
 have h2 : Nat.ble (0 + k) cs.length = true := by rw [hl, Nat.zero_add]; exact Nat.ble_self_eq_true k
 simp only [loadV, ht, hz, cellsAt, this, h2, cond_true, List.drop_zero]
 rw [← hl, List.take_length]
end
section
variable {X : Cx} {st : List It} {l : L} {own : List Blk} {h0 : Heap} {pre post segs : List (List Blk)}
variable {r : Array Oper} {q : Bool} {os : List Oper} {d : Nat} {ty : TypeId} {pos : String} {aft : Array Edge}
theorem gs_alloc {t : TypeId} {z : Value} {cs : List Value} (hn : Nat.blt d X.nt = true) (hz : zeroOf X.E.P t = some z) (hc : z.cells.toList = cs)
 (k : ∀ b, Goes X (.ops r false os :: st) ((d, true, .pointer (some ⟨b, 0, none⟩)) :: l) ([⟨b, .cells cs t⟩] :: segs).flatten h0) :
 Goes X (.ops r false (⟨some d, .alloc t, ty, pos, aft, none⟩ :: os) :: st) l segs.flatten h0 := g_alloc hn hz hc k
theorem gs_box {t : TypeId} {x : Operand} {v : Value} {cs : List Value} (hn : Nat.blt d X.nt = true) (hx : OP l true x v) (hc : v.cells.toList = cs)
 (k : ∀ b, Goes X (.ops r false os :: st) ((d, true, .pointer (some ⟨b, 0, none⟩)) :: l) ([⟨b, .cells cs t⟩] :: segs).flatten h0) :
 Goes X (.ops r false (⟨some d, .box t x, ty, pos, aft, none⟩ :: os) :: st) l segs.flatten h0 := g_box hn hx hc k
theorem gs_store {t T : TypeId} {a x : Operand} {b off k : Nat} {v : Value} {cs vs cs' : List Value} (ha : OP l true a (.pointer (some ⟨b, off, none⟩))) (hx : OP l true x v)
 (hz : sz X.E.P t = some k) (hv : Nat.beq v.cells.size k = true) (hc : v.cells.toList = vs) (hl : Nat.ble (off + vs.length) cs.length = true) (hk : vs.all cellOk = true)
 (hcs : splice cs off vs = cs') {segs' : List (List Blk)} (hg : SetSeg [⟨b, .cells cs T⟩] [⟨b, .cells cs' T⟩] segs segs') (kk : Goes X (.ops r false os :: st) l segs'.flatten h0) :
 Goes X (.ops r false (⟨none, .store t a x, ty, pos, aft, none⟩ :: os) :: st) l segs.flatten h0 := by
 obtain ⟨pre, post, rfl, rfl⟩ := hg.pp
 subst hcs
 exact go_perm (pf _ _ _) (g_store 0 (own' := ⟨b, .cells (splice cs off vs) T⟩ :: (pre ++ post).flatten) ha hx rfl hz hv hc hl hk rfl (go_perm (pf pre post [⟨b, .cells (splice cs off vs) T⟩]).symm kk))
theorem go_seg0 (k : Goes X st l ([] : List (List Blk)).flatten h0) : Goes X st l [] h0 := k
end
theorem nd0 : ∀ e ∈ ([] : List (List Blk)).flatten, e.o ≠ .dead := fun _ h => by cases h
inductive Takes : List (List Blk) → List (List Blk) → List (List Blk) → Prop
 | nil {r : List (List Blk)} : Takes [] r r
 | cons {s : List Blk} {F r r' r'' : List (List Blk)} (h : DelSeg s r r') (k : Takes F r' r'') : Takes (s :: F) r r''
 | emp {F r r'' : List (List Blk)} (k : Takes F r r'') : Takes ([] :: F) r r''
theorem Takes.perm {F r r' : List (List Blk)} (h : Takes F r r') : r.flatten.Perm (F ++ r').flatten := by
 induction h with
 | nil => exact List.Perm.refl _
 | cons h k ih =>
  obtain ⟨pre, post, rfl, rfl⟩ := h.pp
  refine (pf _ _ _).trans ?_
  rw [List.cons_append, List.flatten_cons]
  exact ih.append_left _
 | emp k ih => rw [List.cons_append, List.flatten_cons, List.nil_append]; exact ih
def EvO (E : Env) (f : FuncId) (args : List Value) (segs : List (List Blk)) (h0 : Heap) (Q : Value → List (List Blk) → Heap → Prop) : Prop :=
 ∀ h hf, Has segs.flatten h0 h hf → ∃ n v h' segs' h1 hf', run E n f args h = some (v, h') ∧ HExt h0 h1 ∧ Wf h1 ∧ Has segs'.flatten h1 h' hf' ∧ (∀ e ∈ segs'.flatten, e.o ≠ .dead) ∧ Q v segs' h1
theorem Has.split {h0 h : Heap} : ∀ (F rest : List Blk) (hf : Heap), Has (F ++ rest) h0 h hf → ∃ hm, Has rest h0 h hm ∧ Has F h0 hm hf := by
 intro F
 induction F with
 | nil => intro rest hf m; exact ⟨hf, m, ⟨m.ext, m.wf, ⟨rfl, rfl, rfl, fun _ e => (by cases e), fun _ _ => rfl, fun _ e => (by cases e)⟩, fun _ e => (by cases e), List.nodup_nil⟩⟩
 | cons e F ih =>
  intro rest hf m
  have hb : inOwn (e :: (F ++ rest)) e.b = true := inOwn_iff.mpr ⟨_, List.mem_cons_self, rfl⟩
  have hd := m.msk.dead _ hb
  have hlt := m.msk.lt _ hb
  have hlim : hf.lim ≤ e.b := by have := (m.blk e List.mem_cons_self).2; rw [m.msk.lim] at this; exact this
  obtain ⟨hm, h1, h2⟩ := ih rest (hf.set e.b e.o) (Has.pubH (b := e.b) (o := e.o) m)
  have nF : ∀ x, inOwn F x = true → e.b ≠ x := by
   intro x hx q
   subst q
   obtain ⟨y, hy, hyb⟩ := inOwn_iff.mp hx
   have nd := m.nd
   rw [List.cons_append, List.map_cons, List.nodup_cons] at nd
   exact nd.1 (by rw [← hyb]; exact List.mem_map_of_mem (List.mem_append_left _ hy))
  have ge : hm.get e.b = some e.o := by
   have : inOwn F e.b = false := by
    cases q : inOwn F e.b with
    | false => rfl
    | true => exact absurd rfl (nF _ q)
   rw [h2.msk.get _ this, get_set, if_pos rfl]
  refine ⟨hm, h1, ⟨m.ext, m.wf, ⟨h2.msk.base, h2.msk.lim, h2.msk.n, ?_, ?_, ?_⟩, ?_, ?_⟩⟩
  ·
   intro b hb'
   rw [Has.io_cons, Bool.or_eq_true] at hb'
   rcases hb' with q | q
   ·
    have := Nat.eq_of_beq_eq_true q; subst this; exact hd
   ·
    have := h2.msk.dead b q; rw [get_set, if_neg (nF b q)] at this; exact this
  ·
   intro b hb'
   rw [Has.io_cons, Bool.or_eq_false_iff] at hb'
   have : ¬ e.b = b := by intro q; subst q; have := hb'.1; rw [Nat.beq_refl] at this; cases this
   rw [h2.msk.get b hb'.2, get_set, if_neg this]
  ·
   intro b hb'
   rw [Has.io_cons, Bool.or_eq_true] at hb'
   rcases hb' with q | q
   ·
    have := Nat.eq_of_beq_eq_true q; subst this; exact hlt
   ·
    exact h2.msk.lt b q
  ·
   intro x hx
   rcases List.mem_cons.mp hx with q | q
   ·
    subst q; exact ⟨ge, by rw [h2.msk.lim]; exact hlim⟩
   ·
    exact h2.blk x q
  ·
   have nd := m.nd
   rw [List.cons_append, List.map_cons, List.nodup_cons, List.map_append] at nd
   rw [List.map_cons, List.nodup_cons]
   exact ⟨fun hm' => nd.1 (List.mem_append_left _ hm'), (List.nodup_append.mp nd.2).1⟩
theorem Has.join {h0 h1 h h' h2 hf hf' hm : Heap} {F' rest : List Blk} (m : Has rest h0 h hm) (e01 : h1.lim = h0.lim) (hs : Has F' h1 h' hf') (nd : ∀ e ∈ F', e.o ≠ .dead) (mk : Msk (inOwn rest) h' h2) (kp : Kept (inOwn rest) h h2) :
 Has (F' ++ rest) h1 h2 hf' := by
 have io : ∀ b, inOwn (F' ++ rest) b = (inOwn F' b || inOwn rest b) := fun b => by unfold inOwn; rw [List.any_append]
 have dis : ∀ e ∈ F', inOwn rest e.b = false := by
  intro e he
  cases q : inOwn rest e.b with
  | false => rfl
  | true =>
   have h1 := (hs.blk e he).1
   rw [mk.dead _ q] at h1
   exact absurd (Option.some.inj h1).symm (nd e he)
 have hl : h2.lim = h.lim := by
  rw [mk.lim, hs.msk.lim, hs.ext.lim, e01, ← m.ext.lim, m.msk.lim]
 refine ⟨hs.ext, hs.wf, ⟨mk.base.trans hs.msk.base, mk.lim.trans hs.msk.lim, mk.n.trans hs.msk.n, ?_, ?_, ?_⟩, ?_, ?_⟩
 ·
  intro b hb
  rw [io, Bool.or_eq_true] at hb
  cases q : inOwn F' b with
  | true => exact hs.msk.dead b q
  | false =>
   rcases hb with r | r
   ·
    rw [q] at r; cases r
   ·
    rw [← hs.msk.get b q]; exact mk.dead b r
 ·
  intro b hb
  rw [io, Bool.or_eq_false_iff] at hb
  rw [mk.get b hb.2, hs.msk.get b hb.1]
 ·
  intro b hb
  rw [io, Bool.or_eq_true] at hb
  rcases hb with r | r
  ·
   exact hs.msk.lt b r
  ·
   have := mk.lt b r; rw [hs.msk.n] at this; exact this
 ·
  intro e he
  rcases List.mem_append.mp he with r | r
  ·
   have h1 := hs.blk e r
   exact ⟨by rw [mk.get _ (dis e r)]; exact h1.1, by rw [mk.lim]; exact h1.2⟩
  ·
   have h1 := m.blk e r
   exact ⟨by rw [kp _ (inOwn_iff.mpr ⟨e, r, rfl⟩)]; exact h1.1, by rw [hl]; exact h1.2⟩
 ·
  rw [List.map_append, List.nodup_append]
  refine ⟨hs.nd, m.nd, fun a ha b hb q => ?_⟩
  subst q
  obtain ⟨x, hx, rfl⟩ := List.mem_map.mp ha
  obtain ⟨y, hy, hyb⟩ := List.mem_map.mp hb
  have := dis x hx
  rw [inOwn_iff.mpr ⟨y, hy, hyb⟩] at this
  cases this
section
variable {X : Cx} {st : List It} {l : L} {h0 : Heap} {segs F rest : List (List Blk)}
variable {r : Array Oper} {os : List Oper} {ty : TypeId} {pos : String} {aft : Array Edge}
end
end Go.Proofs.YtokfjifeofpkkaaGreat.V
namespace Go.Proofs.YtokfjifeofpkkaaGreat.V
open Go
set_option linter.unusedVariables false
set_option linter.unusedSimpArgs false
theorem flat_splice {k : Nat} {q : List Value} (hq : q.length = k) : ∀ (rows : List (List Value)) (i : Nat), (∀ r ∈ rows, r.length = k) → i < rows.length → splice rows.flatten (i * k) q = (rows.set i q).flatten := by
 intro rows
 induction rows with
 | nil => intro i _ hi; simp at hi
 | cons x rows ih =>
  intro i hr hi
  have hx := hr x List.mem_cons_self
  cases i with
  | zero =>
   unfold splice
   rw [Nat.zero_mul, List.take_zero, List.nil_append, Nat.zero_add, List.set_cons_zero, List.flatten_cons, List.flatten_cons, hq, ← hx, List.drop_left']
   rfl
  | succ i =>
   have h1 := ih i (fun y hy => hr y (List.mem_cons_of_mem _ hy)) (by simpa using hi)
   unfold splice at h1 ⊢
   rw [List.set_cons_succ, List.flatten_cons, List.flatten_cons, ← h1, Nat.succ_mul, Nat.add_comm (i * k) k, ← hx, List.take_append, List.take_of_length_le (by omega), Nat.add_sub_cancel_left, List.append_assoc, Nat.add_assoc, List.drop_append, List.drop_eq_nil_of_le (by omega), List.nil_append,
    show x.length + (i * x.length + q.length) - x.length = i * x.length + q.length by omega]
theorem Rws.set {α : Type} {R : Rep α} {h : Heap} {rows : List (List Value)} {xs : List α} (s : Rws R h rows xs) {q : List Value} {x : α} (c : R.C h q x) (i : Nat) : Rws R h (rows.set i q) (xs.set i x) := by
 refine ⟨by rw [List.length_set, List.length_set, s.len], fun j row y hr hy => ?_⟩
 rw [List.getElem?_set] at hr hy
 split at hr
 ·
  rename_i e
  subst e
  rw [if_pos rfl] at hy
  split at hr
  ·
   split at hy
   ·
    cases hr; cases hy; exact c
   ·
    cases hy
  ·
   cases hr
 ·
  rename_i e
  rw [if_neg e] at hy
  exact s.C j row y hr hy
def setI {α : Type} (xs : List α) (i : Int) (x : α) : List α := xs.set i.toNat x
section
variable {X : Cx} {st : List It} {l : L} {h0 : Heap} {segs : List (List Blk)}
variable {r : Array Oper} {q : Bool} {os : List Oper} {d : Nat} {ty : TypeId} {pos : String} {aft : Array Edge}
theorem AccR.open {α : Type} {R : Rep α} {elem : TypeId} {h : Heap} {tl : List Blk} {p : Option Addr} {xs : List α} (a : AccR R elem h tl (.slice p xs.length xs.length) xs) {i : Int} {x : α} (hx : getI xs i = some x) :
 ∃ b rows row, p = some ⟨b, 0, some 0⟩ ∧ tl = [⟨b, .cells rows.flatten elem⟩] ∧ Rws R h rows xs ∧ rows[i.toNat]? = some row ∧ R.C h row x ∧ 0 ≤ i ∧ i < (xs.length : Int) ∧ row.length = R.k ∧ (rows.flatten.drop (i.toNat * R.k)).take R.k = row ∧ i.toNat * R.k + R.k ≤ rows.flatten.length := by
 obtain ⟨j, rfl, hj, hl⟩ := getI_some hx
 obtain ⟨hxl, ⟨h1, _, h3⟩ | ⟨b, rows, h1, h2, h3⟩⟩ := a
 ·
  subst h1; simp at hl
 ·
  have hp : p = some ⟨b, 0, some 0⟩ := by simpa using h1
  have hr : j < rows.length := by rw [h3.len]; exact hl
  have hrow := List.getElem?_eq_getElem hr
  obtain ⟨g1, g2⟩ := flat_at rows j h3.k hrow
  exact ⟨b, rows, rows[j], hp, h2, h3, hrow, h3.C j _ x hrow hj, by omega, by omega, h3.k _ (List.getElem_mem hr), g2, g1⟩
theorem AccR.put {α : Type} {R : Rep α} {elem : TypeId} {h : Heap} {b : Nat} {rows : List (List Value)} {xs : List α} {i : Int} {x : α} {row : List Value} (hl : xs.length < 9223372036854775808) (s : Rws R h rows xs) (hi0 : 0 ≤ i) (hi : i < (xs.length : Int)) (c : R.C h row x) :
 AccR R elem h [⟨b, .cells (splice rows.flatten (i.toNat * R.k) row) elem⟩] (.slice (some ⟨b, 0, some 0⟩) (setI xs i x).length (setI xs i x).length) (setI xs i x) := by
 have hr : i.toNat < rows.length := by rw [s.len]; omega
 refine ⟨by unfold setI; rw [List.length_set]; exact hl, .inr ⟨b, rows.set i.toNat row, rfl, ?_, s.set c i.toNat⟩⟩
 rw [flat_splice (R.len c) rows i.toNat s.k hr]
end
end Go.Proofs.YtokfjifeofpkkaaGreat.V
