/- Slices' rows read, and small laws for the walks. .. and what follows it, in one text.
   No condition beyond those that each part names. -/
import Derived.Test.YtndhbaidibioeaaGreatV23
import Derived.OpenShut
import Derived.Shelf.Sort.Plain
import Derived.Shelf.Slices.In.SortNone
import Derived.Shelf.Slices.CompactS
import Derived.Laws.Externs
import Derived.Lib.Overlaps
import Derived.MapKept
import Derived.Laws.Strings
namespace Go.Proofs.YtndhbaidibioeaaGreat.V
open Go
set_option linter.unusedVariables false
set_option linter.unusedSimpArgs false
theorem ia_of {E : Env} {t e k i n cap : Nat} {ik : IntKind} {a0 a' : Addr} (hu : E.P.underlying t = some (.slice e)) (hz : sz E.P e = some k) (hi : i < n) (ha : elemAddr a0 (i * k) = some a') :
 indexAddrV E t (.slice (some a0) n cap) (.int ik i) = some (.pointer (some a')) := by
 unfold indexAddrV
 dsimp only
 rw [hu]
 dsimp only
 rw [if_pos ⟨by omega, by omega⟩, hz]
 dsimp only
 rw [show ((i : Int).toNat) = i from rfl, ha]
theorem ld_of {E : Env} {e k : Nat} {a' : Addr} {r : List Value} {h : Heap} (ht : isAggT E.P e = some true) (hz : sz E.P e = some k) (hc : cellsAt h a' k = some r) : loadV E h e a' = some (.agg r.toArray) := by
 unfold loadV
 rw [ht]; dsimp only; rw [hz]; dsimp only; rw [hc]
theorem wrap_id {n : Int} (h0 : -9223372036854775808 ≤ n) (h1 : n < 9223372036854775808) : IntKind.wrap .i64 n = n := by
 unfold IntKind.wrap
 simp [IntKind.bits, IntKind.signed]
 omega
theorem elem_spot {a0 a : Addr} {j : Nat} (h : elemAddr a0 j = some a) : a.spot = none ∨ a.spot = some 1 := by
 unfold elemAddr at h
 split at h
 ·
  cases h; exact .inl rfl
 ·
  cases h; exact .inl rfl
 ·
  cases h; exact .inr rfl
 ·
  cases h
theorem base_get {h : Heap} {b : Nat} : ∀ {n o i : Nat} {r : List Value} {v : Value}, baseCells h b o n = some r → r[i]? = some v → h.base b (o + i) = some v := by
 intro n
 induction n with
 | zero => intro o i r v h1 h2; cases h1; simp at h2
 | succ n ih =>
  intro o i r v h1 h2
  unfold baseCells at h1
  split at h1
  ·
   rename_i w hw
   split at h1
   ·
    rename_i r' hr
    cases h1
    cases i with
    | zero =>
     have : w = v := by simpa using h2
     subst this; exact hw
    | succ i =>
     have := ih hr (i := i) (v := v) (by simpa using h2)
     rw [show o + (i + 1) = o + 1 + i by omega]; exact this
   ·
    cases h1
  ·
   cases h1
theorem cell_of_cells {h : Heap} {a : Addr} {k i : Nat} {r : List Value} {v : Value} (hc : cellsAt h a k = some r) (hv : r[i]? = some v) : cellAt h ⟨a.block, a.off + i, a.spot⟩ = some v := by
 unfold cellsAt at hc
 unfold cellAt
 split at hc
 ·
  rename_i hs
  split at hc
  ·
   rename_i c T hg
   cases e : Nat.ble (a.off + k) c.length with
   | false => rw [e] at hc; cases hc
   | true =>
    rw [e] at hc
    cases hc
    dsimp only
    rw [hs]; dsimp only; rw [hg]; dsimp only
    rw [List.getElem?_take] at hv
    split at hv
    ·
     rw [List.getElem?_drop] at hv; exact hv
    ·
     cases hv
  ·
   cases hc
 ·
  rename_i hs
  dsimp only at hs ⊢
  rw [hs]
  exact base_get hc hv
 ·
  cases hc
theorem ld_field {E : Env} {t k i : Nat} {a : Addr} {r : List Value} {v : Value} {h : Heap} (ht : isAggT E.P t = some false) (hc : cellsAt h a k = some r) (hv : r[i]? = some v) : loadV E h t ⟨a.block, a.off + i, a.spot⟩ = some v := by
 unfold loadV; rw [ht]; exact cell_of_cells hc hv
section
variable {X : Cx} {st : List It} {l : L} {own : List Blk} {h0 : Heap}
theorem rg {E : Env} {g : Bool} {op : Op} {v : Value} (h : g = true → RV E l own h0 g op v) : RV E l own h0 g op v := fun fr h' hf ag hs q => h q fr h' hf ag hs q
theorem go_cast {d : Nat} {g : Bool} {v : Value} (v2 : Value) (e : v = v2) (k : Goes X st ((d, g, v2) :: l) own h0) : Goes X st ((d, g, v) :: l) own h0 := by subst e; exact k
theorem go_pub (i : Nat) {b : Nat} {o : O} (hi : own[i]? = some ⟨b, o⟩)
 (k : ∀ h1, HExt h0 h1 → Wf h1 → h1.get b = some o → Goes X st l (own.eraseIdx i) h1) : Goes X st l own h0 := by
 intro fr h hf ag hs
 have hp := hs.pub hi
 exact k _ hp.ext hp.wf (by rw [get_set, if_pos rfl]) fr h _ ag ⟨HExt.refl _, hp.wf, hp.msk, hp.blk, hp.nd⟩
theorem go_sub {own' : List Blk} (s : own'.Sublist own) (k : Goes X st l own' h0) : Goes X st l own h0 := by
 intro fr h hf ag hs
 obtain ⟨hf', hs'⟩ := hs.sub s
 exact k fr h hf' ag hs'
theorem go_perm {own' : List Blk} (s : own.Perm own') (k : Goes X st l own' h0) : Goes X st l own h0 := fun fr h hf ag hs => k fr h hf ag (hs.perm s)
theorem Goes.back {h1 : Heap} (e : HExt h0 h1) (k : Goes X st l own h0) : Goes X st l own h1 := fun fr h hf ag hs => k fr h hf ag (hs.back e)
def AccT (elem : TypeId) (tl : List Blk) (v : Value) (rows : List (List Value)) : Prop :=
 (rows = [] ∧ v = .slice none 0 0 ∧ tl = []) ∨ ∃ b, v = .slice (some ⟨b, 0, some 0⟩) rows.length rows.length ∧ tl = [⟨b, .cells rows.flatten elem⟩]
theorem AccT.nil (elem : TypeId) : AccT elem [] (.slice none 0 0) [] := .inl ⟨rfl, rfl, rfl⟩
theorem AccT.len {elem : TypeId} {tl : List Blk} {v : Value} {rows : List (List Value)} (a : AccT elem tl v rows) : ∃ p, v = .slice p rows.length rows.length := by
 rcases a with ⟨h1, h2, h3⟩ | ⟨b, h1, h2⟩
 ·
  subst h1; exact ⟨none, h2⟩
 ·
  exact ⟨_, h1⟩
theorem flat_len {k : Nat} {rows : List (List Value)} (h : ∀ r ∈ rows, r.length = k) : rows.flatten.length = rows.length * k := by
 induction rows with
 | nil => simp
 | cons r rows ih =>
  rw [List.flatten_cons, List.length_append, h r List.mem_cons_self, ih (fun x hx => h x (List.mem_cons_of_mem _ hx)), List.length_cons, Nat.succ_mul, Nat.add_comm]
variable {r : Array Oper} {os : List Oper} {d : Nat} {ty : TypeId} {pos : String} {aft : Array Edge}
end
theorem flat_at {k : Nat} {q : List Value} : ∀ (rows : List (List Value)) (i : Nat), (∀ q ∈ rows, q.length = k) → rows[i]? = some q → i * k + k ≤ rows.flatten.length ∧ (rows.flatten.drop (i * k)).take k = q := by
 intro rows
 induction rows with
 | nil => intro i _ hq; simp at hq
 | cons x rows ih =>
  intro i hr hq
  have hx := hr x List.mem_cons_self
  cases i with
  | zero =>
   have : x = q := by simpa using hq
   subst this
   refine ⟨by rw [List.flatten_cons, List.length_append]; omega, ?_⟩
   rw [Nat.zero_mul, List.drop_zero, List.flatten_cons, ← hx, List.take_left']
   rfl
  | succ i =>
   obtain ⟨g1, g2⟩ := ih i (fun y hy => hr y (List.mem_cons_of_mem _ hy)) (by simpa using hq)
   refine ⟨by rw [List.flatten_cons, List.length_append, Nat.succ_mul]; omega, ?_⟩
   rw [List.flatten_cons, List.drop_append, List.drop_eq_nil_of_le (by rw [Nat.succ_mul]; omega), List.nil_append, show (i + 1) * k - x.length = i * k by rw [Nat.succ_mul]; omega]
   exact g2
structure Rep (α : Type) where
 k : Nat
 T : Nat
 C : Heap → List Value → α → Prop
 mono : ∀ {h h' cs x}, Kn h h' → C h cs x → C h' cs x
 len : ∀ {h cs x}, C h cs x → cs.length = k
 ok : ∀ {h cs x}, C h cs x → cs.all cellOk = true
def Rep.flat {α : Type} (k T : Nat) (c : α → List Value) (hc : ∀ x, (c x).length = k ∧ (c x).all cellOk = true) : Rep α :=
 ⟨k, T, fun _ cs x => cs = c x, fun _ e => e, fun e => by rw [e]; exact (hc _).1, fun e => by rw [e]; exact (hc _).2⟩
def RL {α : Type} (R : Rep α) (h : Heap) (a : Option Addr) (c : Nat) (xs : List α) : Prop :=
 xs.length < 9223372036854775808 ∧ xs.length ≤ c ∧ (∀ (i : Nat) (x : α), xs[i]? = some x → ∃ a0 a' row, a = some a0 ∧ elemAddr a0 (i * R.k) = some a' ∧ cellsAt h a' R.k = some row ∧ R.C h row x) ∧
  (∀ a0, a = some a0 → a0.spot = some 0 → ∃ cs, h.get a0.block = some (.cells cs R.T))
theorem RL.nil {α : Type} (R : Rep α) (h : Heap) (c : Nat) : RL R h none c [] := ⟨by simp, Nat.zero_le _, fun i x hx => by simp at hx, fun a0 e => by cases e⟩
theorem RL.ext {α : Type} {R : Rep α} {h h' : Heap} {a : Option Addr} {c : Nat} {xs : List α} (s : RL R h a c xs) (e : Kn h h') : RL R h' a c xs :=
 ⟨s.1, s.2.1, fun i x hx => by
  obtain ⟨a0, a', row, h1, h2, h3, h4⟩ := s.2.2.1 i x hx
  exact ⟨a0, a', row, h1, h2, e.cellsAt h3, R.mono e h4⟩, fun a0 h1 h2 => by
  obtain ⟨cs, hc⟩ := s.2.2.2 a0 h1 h2
  exact ⟨cs, e.get _ _ hc (by intro q; cases q)⟩⟩
def Rep.sl {α : Type} (R : Rep α) (T : Nat) : Rep (List α) where
 k := 1
 T := T
 C := fun h cs x => ∃ a c, cs = [.slice a x.length c] ∧ RL R h a c x
 mono := fun e ⟨a, c, h1, h2⟩ => ⟨a, c, h1, h2.ext e⟩
 len := fun ⟨_, _, h1, _⟩ => by rw [h1]; rfl
 ok := fun ⟨_, _, h1, _⟩ => by rw [h1]; rfl
def RS_ (T : Nat) : Rep ByteArray := Rep.flat 1 T (fun x => [.string x]) (fun _ => ⟨rfl, rfl⟩)
def RI_ (k : IntKind) (T : Nat) : Rep Int := Rep.flat 1 T (fun x => [.int k x]) (fun _ => ⟨rfl, rfl⟩)
def RB_ (T : Nat) : Rep Bool := Rep.flat 1 T (fun x => [.bool x]) (fun _ => ⟨rfl, rfl⟩)
def getI {α : Type} (l : List α) (i : Int) : Option α := if 0 ≤ i then l[i.toNat]? else none
theorem getI_nat {α : Type} (l : List α) (i : Nat) : getI l (i : Int) = l[i]? := by unfold getI; rw [if_pos (by omega)]; rfl
theorem getI_some {α : Type} {l : List α} {i : Int} {x : α} (h : getI l i = some x) : ∃ j : Nat, i = (j : Int) ∧ l[j]? = some x ∧ j < l.length := by
 unfold getI at h
 split at h
 ·
  rename_i q
  refine ⟨i.toNat, by omega, h, ?_⟩
  rcases Nat.lt_or_ge i.toNat l.length with r | r
  ·
   exact r
  ·
   rw [List.getElem?_eq_none r] at h; cases h
 ·
  cases h
theorem ix {α : Type} {R : Rep α} {E : Env} {h : Heap} {t e k cap : Nat} {ik : IntKind} {a : Option Addr} {xs : List α} {i : Int} {x : α} (hs : RL R h a cap xs) (hx : getI xs i = some x)
 (hu : E.P.underlying t = some (.slice e)) (hz : sz E.P e = some k) (hk : k = R.k) :
 ∃ a' row, indexAddrV E t (.slice a xs.length cap) (.int ik i) = some (.pointer (some a')) ∧ cellsAt h a' k = some row ∧ R.C h row x ∧ (a'.spot = none ∨ a'.spot = some 1) := by
 obtain ⟨j, rfl, hj, hl⟩ := getI_some hx
 obtain ⟨a0, a', row, h1, h2, h3, h4⟩ := hs.2.2.1 j x hj
 subst h1 hk
 exact ⟨a', row, ia_of hu hz hl h2, h3, h4, elem_spot h2⟩
theorem ld_one {E : Env} {e : TypeId} {a : Addr} {v : Value} {h : Heap} (ht : isAggT E.P e = some false) (hc : cellsAt h a 1 = some [v]) : loadV E h e a = some v := by
 have := cell_of_cells (i := 0) hc rfl
 unfold loadV; rw [ht]; exact this
theorem drop_nil {α : Type} {xs : List α} {i : Nat} (h : [] = List.drop i xs) : ¬ (i : Int) < (xs.length : Int) := by
 have := congrArg List.length h
 simp at this; omega
theorem drop_cons {α : Type} {xs r : List α} {z : α} {i : Nat} (h : z :: r = List.drop i xs) : i < xs.length ∧ xs[i]? = some z ∧ r = List.drop (i + 1) xs := by
 have h1 : i < xs.length := by
  rcases Nat.lt_or_ge i xs.length with q | q
  ·
   exact q
  ·
   rw [List.drop_eq_nil_of_le q] at h; cases h
 rw [List.drop_eq_getElem_cons h1] at h
 cases h
 exact ⟨h1, List.getElem?_eq_getElem h1, rfl⟩
theorem wrap_succ {i n : Nat} (h : i < n) (hn : n < 9223372036854775808) : Value.int .i64 (IntKind.i64.wrap ((i : Int) + 1)) = .int .i64 ((i + 1 : Nat) : Int) := by
 rw [wrap_id (by omega) (by omega)]; rfl
def lessB (x y : ByteArray) : Bool := Op.bytesLess x.toList y.toList
def eqB (x y : ByteArray) : Bool := x.toList == y.toList
def leB (x y : ByteArray) : Bool := lessB x y || eqB x y
def addS (x y : ByteArray) : Option ByteArray := if x.size + y.size ≤ 9223372036854775807 then some (x ++ y) else none
theorem addS_some {x y z : ByteArray} (h : addS x y = some z) : x.size + y.size ≤ 9223372036854775807 ∧ z = x ++ y := by
 unfold addS at h
 split at h
 ·
  cases h; exact ⟨by assumption, rfl⟩
 ·
  cases h
theorem addS_bin {E : Env} {t : TypeId} {x y : ByteArray} (h : x.size + y.size ≤ 9223372036854775807) : binV E .add t (.string x) (.string y) = some (.string (x ++ y)) := by
 simp only [binV, strBin, if_pos h]
theorem obind {α β : Type} {o : Option α} {k : α → Option β} {r : β} (h : o.bind k = some r) : ∃ x, o = some x ∧ k x = some r := by
 cases o with
 | none => cases h
 | some x => exact ⟨x, rfl, h⟩
theorem ifT {α : Type} {c : Bool} {A B : Option α} {r : α} (hc : c = true) (h : (if c = true then A else B) = some r) : A = some r := by rw [if_pos hc] at h; exact h
theorem ifF {α : Type} {c : Bool} {A B : Option α} {r : α} (hc : c = false) (h : (if c = true then A else B) = some r) : B = some r := by rw [hc] at h; exact h
theorem someI {α : Type} {a b : α} (h : some a = some b) : b = a := (Option.some.inj h).symm
inductive Lp (α β : Type) where
 | go (s : α)
 | out (r : β)
def lpK {α β : Type} (x : Lp α β) (k : α → Option β) : Option β := match x with | .go s => k s | .out r => some r
def appL {α : Type} (B : Nat) (xs ys : List α) : Option (List α) := if roomy (xs.length + ys.length) B = true then some (xs ++ ys) else none
theorem appL_some {α : Type} {B : Nat} {xs ys zs : List α} (h : appL B xs ys = some zs) : roomy (xs.length + ys.length) B = true ∧ zs = xs ++ ys := by
 unfold appL at h
 split at h
 ·
  cases h; exact ⟨by assumption, rfl⟩
 ·
  cases h
section
variable {X : Cx} {st : List It} {l : L} {own : List Blk} {h0 : Heap}
variable {r : Array Oper} {q : Bool} {os : List Oper} {d : Nat} {ty : TypeId} {pos : String} {aft : Array Edge}
theorem r_pkT {E : Env} {g : Bool} {c a e : Operand} {y : Value} (hc : OP l g c (.bool true)) (ha : OP l g a y) : RV E l own h0 g (.pick c a e) y := by
 intro fr h hf ag _ q
 unfold readV; dsimp only
 rw [hc fr ag q]
 exact ha fr ag q
theorem r_pkF {E : Env} {g : Bool} {c a e : Operand} {y : Value} (hc : OP l g c (.bool false)) (ha : OP l g e y) : RV E l own h0 g (.pick c a e) y := by
 intro fr h hf ag _ q
 unfold readV; dsimp only
 rw [hc fr ag q]
 exact ha fr ag q
theorem gM {t : Nat} {v : Value} (hn : Nat.blt d X.nt = true) (h : lk l t = some (true, v)) (k : Goes X (.ops r q os :: st) ((d, true, v) :: l) own h0) :
 Goes X (.ops r q (⟨some d, .move (.tmp t), ty, pos, aft, none⟩ :: os) :: st) l own h0 := gr hn (r_move (ot h)) k
theorem gA {t : Nat} {v : Value} (hn : Nat.blt d X.nt = true) (h : lk l t = some (true, v)) (k : Goes X (.ops r q os :: st) ((d, true, v) :: l) own h0) :
 Goes X (.ops r q (⟨some d, .assign (.tmp t), ty, pos, aft, none⟩ :: os) :: st) l own h0 := gr hn (r_assign (ot h)) k
theorem gAc {v : Value} (hn : Nat.blt d X.nt = true) (h : plainN 4 v = true) (k : Goes X (.ops r q os :: st) ((d, true, v) :: l) own h0) :
 Goes X (.ops r q (⟨some d, .assign (.const v), ty, pos, aft, none⟩ :: os) :: st) l own h0 := gr hn (r_assign (oc h)) k
theorem gE {i t : Nat} {vs : Array Value} {v : Value} (hn : Nat.blt d X.nt = true) (h : lk l t = some (true, .tuple vs)) (hv : vs[i]? = some v) (k : Goes X (.ops r q os :: st) ((d, true, v) :: l) own h0) :
 Goes X (.ops r q (⟨some d, .extract (.tmp t) i, ty, pos, aft, none⟩ :: os) :: st) l own h0 := gr hn (r_extract (ot h) hv) k
theorem go_re (t : Nat) {g : Bool} {v v2 : Value} (h : lk l t = some (g, v)) (e : v = v2) (k : Goes X st ((t, g, v2) :: l) own h0) : Goes X st l own h0 := by
 subst e
 refine Goes.weak k ?_
 intro t' g' v' hl
 unfold lk at hl
 cases e : Nat.beq t t' with
 | true =>
  rw [e] at hl
  have := Nat.eq_of_beq_eq_true e
  subst this
  simp only [cond_true, Option.some.injEq, Prod.mk.injEq] at hl
  obtain ⟨h1, h2⟩ := hl
  subst h1 h2; exact h
 | false => rw [e] at hl; exact hl
theorem wanted_none {ops : Array Oper} {fr : Fr} {o : Oper} (h : o.guard = none) : wantedV ops fr o = true := by unfold wantedV; rw [h]
theorem g_do {j dj : Nat} {w : Bool} {dst : Option Nat} {op : Op} {oj : Oper} (hj : r[j]? = some oj) (hd : oj.dst = some dj) (hl : lk l dj = some (true, .bool w))
 (k : Goes X (.ops r q (⟨dst, op, ty, pos, aft, none⟩ :: os) :: st) l own h0) : Goes X (.ops r q (⟨dst, op, ty, pos, aft, some (j, w)⟩ :: os) :: st) l own h0 := by
 intro fr h hf ag hs
 refine Dn.of_eq (fun n => ?_) (k fr h hf ag hs)
 have h1 := wanted_t (o := ⟨dst, op, ty, pos, aft, some (j, w)⟩) rfl hj hd hl fr ag
 have h2 : wantedV r fr ⟨dst, op, ty, pos, aft, none⟩ = true := wanted_none rfl
 have h1' : wantedV r fr ⟨dst, op, ty, pos, aft, some (j, w)⟩ = true := by rw [h1]; cases w <;> rfl
 simp only [exec, stepIt]
 cases q
 ·
  simp only [cond_false, runOps, h1', h2]
 ·
  simp only [cond_true, runQuiet, h1', h2]
theorem g_no {j dj : Nat} {w b g : Bool} {op : Op} {oj : Oper} (hn : Nat.blt d X.nt = true) (hj : r[j]? = some oj) (hd : oj.dst = some dj) (hl : lk l dj = some (g, .bool b)) (hw : (g && (b == w)) = false)
 (k : Goes X (.ops r q os :: st) ((d, false, undef) :: l) own h0) : Goes X (.ops r q (⟨some d, op, ty, pos, aft, some (j, w)⟩ :: os) :: st) l own h0 := by
 intro fr h hf ag hs
 refine Dn.of_eq (fun n => ?_) (k _ h hf (ag.set d false undef) hs)
 have h1 : wantedV r fr ⟨some d, op, ty, pos, aft, some (j, w)⟩ = false := by rw [wanted_t rfl hj hd hl fr ag]; exact hw
 simp only [exec, stepIt]
 cases q
 ·
  simp only [cond_false, runOps, h1, Fr.put, hn, cond_true]
 ·
  simp only [cond_true, runQuiet, h1, cond_false, Fr.put, hn]
theorem g_nu {j dj : Nat} {w : Bool} {v : Value} {op : Op} {oj : Oper} (hn : Nat.blt d X.nt = true) (hj : r[j]? = some oj) (hd : oj.dst = some dj) (hl : lk l dj = some (false, v))
 (k : Goes X (.ops r q os :: st) ((d, false, undef) :: l) own h0) : Goes X (.ops r q (⟨some d, op, ty, pos, aft, some (j, w)⟩ :: os) :: st) l own h0 := by
 intro fr h hf ag hs
 refine Dn.of_eq (fun n => ?_) (k _ h hf (ag.set d false undef) hs)
 have h1 : wantedV r fr ⟨some d, op, ty, pos, aft, some (j, w)⟩ = false := by simp only [wantedV, hj, hd, ag.at hl, cond_false]; rfl
 simp only [exec, stepIt]
 cases q
 ·
  simp only [cond_false, runOps, h1, Fr.put, hn, cond_true]
 ·
  simp only [cond_true, runQuiet, h1, cond_false, Fr.put, hn]
theorem r_nilck {E : Env} {g : Bool} {x : Operand} {a : Addr} (hx : OP l g x (.pointer (some a))) : RV E l own h0 g (.nilCheck x) (.pointer (some a)) := fun fr h hf ag hs q => by
 simp only [readV, hx fr ag q]
theorem veq_int (n : Nat) (k : IntKind) (a : Int) : veqN n (.int k a) (.int k a) = true := by cases n <;> simp [veqN]
theorem bb_refl (a : ByteArray) : (a == a) = true := by
 first
 | exact beq_self_eq_true a
 | exact decide_eq_true rfl
 | (obtain ⟨a⟩ := a; show (a == a) = true; exact beq_self_eq_true a)
theorem veq_str (n : Nat) (a : ByteArray) : veqN n (.string a) (.string a) = true := by cases n <;> simp only [veqN, bb_refl]
theorem veq_ptr (n : Nat) (a : Option Addr) : veqN n (.pointer a) (.pointer a) = true := by cases n <;> simp [veqN]
theorem veq_agg (n : Nat) (cs : List Value) (h : ∀ v ∈ cs, veqN n v v = true) : veqN (n + 1) (.agg cs.toArray) (.agg cs.toArray) = true := by
 have key : ∀ cs : List Value, (∀ v ∈ cs, veqN n v v = true) → (List.zipWith (veqN n) cs cs).all id = true := by
  intro cs
  induction cs with
  | nil => intro _; rfl
  | cons c cs ih =>
   intro h
   simp only [List.zipWith_cons_cons, List.all_cons, id, Bool.and_eq_true]
   exact ⟨h c List.mem_cons_self, ih fun v hv => h v (List.mem_cons_of_mem _ hv)⟩
 simp only [veqN, Nat.beq_refl, Bool.true_and]
 exact key cs h
theorem vq0 : ∀ p ∈ ([] : List (Nat × Value)), veqN 6 p.2 p.2 = true := fun _ h => by cases h
theorem vq1 {i : Nat} {v : Value} {vs : List (Nat × Value)} (h : veqN 6 v v = true) (k : ∀ p ∈ vs, veqN 6 p.2 p.2 = true) : ∀ p ∈ ((i, v) :: vs), veqN 6 p.2 p.2 = true := by
 intro p hp
 rcases List.mem_cons.1 hp with rfl | hp
 ·
  exact h
 ·
  exact k p hp
theorem va0 (n : Nat) : ∀ v ∈ ([] : List Value), veqN n v v = true := fun _ h => by cases h
theorem va1 {n : Nat} {v : Value} {vs : List Value} (h : veqN n v v = true) (k : ∀ v ∈ vs, veqN n v v = true) : ∀ x ∈ (v :: vs), veqN n x x = true := by
 intro x hx
 rcases List.mem_cons.1 hx with rfl | hx
 ·
  exact h
 ·
  exact k x hx
def BK (h : Heap) (b : Nat) (cs : List Value) (T : TypeId) : Prop := h.get b = some (.cells cs T)
theorem BK.ext {h h' : Heap} {b : Nat} {cs : List Value} {T : TypeId} (g : BK h b cs T) (e : Kn h h') : BK h' b cs T := e.get b _ g (by intro e; cases e)
theorem ld_cell {E : Env} {t T : TypeId} {b off : Nat} {cs : List Value} {v : Value} {h : Heap} (ht : isAggT E.P t = some false) (hb : h.get b = some (.cells cs T)) (hv : cs[off]? = some v) : loadV E h t ⟨b, off, none⟩ = some v := by
 simp only [loadV, ht, cellAt, hb, hv]
theorem ld_bk {E : Env} {t T : TypeId} {b off n : Nat} {cs vs : List Value} {h : Heap} (ht : isAggT E.P t = some true) (hz : sz E.P t = some n) (hb : BK h b cs T) (hl : off + n ≤ cs.length) (hv : (cs.drop off).take n = vs) : loadV E h t ⟨b, off, none⟩ = some (.agg vs.toArray) := by
 unfold BK at hb
 simp only [loadV, ht, hz, cellsAt, hb, Nat.ble_eq_true_of_le hl, cond_true, hv]
theorem g_mslice {t elem : TypeId} {L C : Operand} {n c k b : Nat} {z : Value} {cs : List Value} (hn : Nat.blt d X.nt = true) (hL : OP l true L (.int .i64 n)) (hC : OP l true C (.int .i64 c))
 (hu : X.E.P.underlying t = some (.slice elem)) (hk : sz X.E.P elem = some k) (hb : bytesOf X.E.P elem = some b) (hz : zeroOf X.E.P elem = some z)
 (hs : (decide ((0 : Int) ≤ n ∧ (n : Int) ≤ c ∧ (c : Int) ≤ 140737488355328 ∧ (b : Int) * c ≤ 281474976710656) && Nat.beq z.cells.size k) = true)
 (hc : repZ z.cells.toList c = cs) (kk : ∀ b, Goes X (.ops r false os :: st) ((d, true, .slice (some ⟨b, 0, none⟩) n c) :: l) (⟨b, .cells cs elem⟩ :: own) h0) :
 Goes X (.ops r false (⟨some d, .makeSlice t L C, ty, pos, aft, none⟩ :: os) :: st) l own h0 := by
 intro fr h hf ag hs'
 have ho : opV X.E (run X.E 0) fr h (.makeSlice t L C) = some (.slice (some ⟨h.n, 0, none⟩) n c, h.alloc (.cells cs elem)) := by
  simp only [opV, readV, writeV, hL fr ag rfl, hC fr ag rfl, hu, hk, hb, hz, hs, cond_true, Int.toNat_natCast, hc]
 refine step_op rfl ho (put_some hn _ _) ?_
 exact kk h.n _ _ _ (ag.set d true _) (hs'.alloc (.cells cs elem))
theorem go_joinc {β : Type} (P : β → Heap → Prop) (lj : β → L) (oj : β → List Blk) {c : Code}
 (hJ : ∀ s h', HExt h0 h' → Wf h' → P s h' → Goes X st (lj s) (oj s) h')
 (k : (∀ s h', HExt h0 h' → Wf h' → P s h' → Goes X st (lj s) (oj s) h') → Goes X (.code c :: st) l own h0) : Goes X (.code c :: st) l own h0 := k hJ
theorem go_joinr (n : Nat) {β : Type} (P : β → Heap → Prop) (lj : β → L) (oj : β → List Blk)
 (hJ : ∀ s h', HExt h0 h' → Wf h' → P s h' → Goes X (.ops r q (os.drop n) :: st) (lj s) (oj s) h')
 (k : (∀ s h', HExt h0 h' → Wf h' → P s h' → Goes X (.ops r q (os.drop n) :: st) (lj s) (oj s) h') → Goes X (.ops r q os :: st) l own h0) : Goes X (.ops r q os :: st) l own h0 := k hJ
structure Rws {α : Type} (R : Rep α) (h : Heap) (rows : List (List Value)) (xs : List α) : Prop where
 len : rows.length = xs.length
 C : ∀ (i : Nat) (row : List Value) (x : α), rows[i]? = some row → xs[i]? = some x → R.C h row x
namespace Rws
variable {α : Type} {R : Rep α} {h h' : Heap} {rows rows2 : List (List Value)} {xs ys : List α}
theorem nil : Rws R h [] [] := ⟨rfl, fun i row x hr _ => by simp at hr⟩
theorem one {row : List Value} {x : α} (c : R.C h row x) : Rws R h [row] [x] := ⟨rfl, fun i r y hr hy => by
 cases i with
 | zero => cases hr; cases hy; exact c
 | succ i => simp at hr⟩
theorem cons {row : List Value} {x : α} (c : R.C h row x) (t : Rws R h rows xs) : Rws R h (row :: rows) (x :: xs) := ⟨by simp [t.len], fun i r y hr hy => by
 cases i with
 | zero => cases hr; cases hy; exact c
 | succ i => exact t.C i r y (by simpa using hr) (by simpa using hy)⟩
theorem ext (s : Rws R h rows xs) (e : Kn h h') : Rws R h' rows xs := ⟨s.len, fun i row x a b => R.mono e (s.C i row x a b)⟩
theorem app (s : Rws R h rows xs) (t : Rws R h rows2 ys) : Rws R h (rows ++ rows2) (xs ++ ys) := by
 refine ⟨by rw [List.length_append, List.length_append, s.len, t.len], fun i row x hr hx => ?_⟩
 rw [List.getElem?_append] at hr hx
 rw [s.len] at hr
 split at hr
 ·
  rename_i q; rw [if_pos q] at hx; exact s.C i row x hr hx
 ·
  rename_i q; rw [if_neg q] at hx; exact t.C _ row x hr hx
theorem at_ (s : Rws R h rows xs) {row : List Value} (hr : row ∈ rows) : ∃ x, R.C h row x := by
 obtain ⟨i, hi⟩ := List.mem_iff_getElem?.mp hr
 have : i < xs.length := by
  rw [← s.len]
  rcases Nat.lt_or_ge i rows.length with q | q
  ·
   exact q
  ·
   rw [List.getElem?_eq_none q] at hi; cases hi
 exact ⟨_, s.C i row _ hi (List.getElem?_eq_getElem this)⟩
theorem k (s : Rws R h rows xs) : ∀ row ∈ rows, row.length = R.k := fun row hr => by obtain ⟨x, hx⟩ := s.at_ hr; exact R.len hx
theorem all (s : Rws R h rows xs) : rows.flatten.all cellOk = true := by
 rw [List.all_eq_true]
 intro v hv
 obtain ⟨row, hr, hv⟩ := List.mem_flatten.mp hv
 obtain ⟨x, hx⟩ := s.at_ hr
 exact List.all_eq_true.mp (R.ok hx) v hv
theorem flen (s : Rws R h rows xs) : rows.flatten.length = xs.length * R.k := by rw [flat_len s.k, s.len]
end Rws
theorem RL.of_blk {α : Type} {R : Rep α} {h : Heap} {b : Nat} {T : TypeId} {cs : List Value} {rows : List (List Value)} {xs : List α} {sp : Option Nat} (hsp : sp = none ∨ sp = some 0) (hb : h.get b = some (.cells cs T)) (hc : cs = rows.flatten) (s : Rws R h rows xs) (hl : xs.length < 9223372036854775808) {c : Nat} (hcap : xs.length ≤ c) (hT : T = R.T) :
 RL R h (some ⟨b, 0, sp⟩) c xs := by
 subst hc hT
 refine ⟨hl, hcap, fun i x hx => ?_, fun a0 h1 h2 => by cases h1; exact ⟨_, hb⟩⟩
 have hi : i < rows.length := by
  rw [s.len]
  rcases Nat.lt_or_ge i xs.length with q | q
  ·
   exact q
  ·
   rw [List.getElem?_eq_none q] at hx; cases hx
 have hr := List.getElem?_eq_getElem hi
 obtain ⟨g1, g2⟩ := flat_at rows i s.k hr
 refine ⟨_, ⟨b, 0 + i * R.k, none⟩, rows[i], rfl, ?_, ?_, s.C i _ x hr hx⟩
 ·
  rcases hsp with e | e <;> subst e <;> rfl
 ·
  unfold cellsAt; dsimp only; rw [hb]; dsimp only
  rw [Nat.zero_add, Nat.ble_eq_true_of_le g1, g2]; rfl
theorem RL.first {α : Type} {R : Rep α} {h : Heap} {a : Option Addr} {c : Nat} {xs : List α} (s : RL R h a c xs) (hk : 0 < R.k) :
 ∃ rows, Rws R h rows xs ∧ firstV h R.k xs.length (.slice a xs.length c) = some rows.flatten := by
 have hex : ∀ i, i < xs.length → ∃ row, ∃ a0 a', a = some a0 ∧ elemAddr a0 (i * R.k) = some a' ∧ cellsAt h a' R.k = some row ∧ ∀ x, xs[i]? = some x → R.C h row x := by
  intro i hi
  obtain ⟨a0, a', row, h1, h2, h3, h4⟩ := s.2.2.1 i _ (List.getElem?_eq_getElem hi)
  refine ⟨row, a0, a', h1, h2, h3, fun x hx => ?_⟩
  rw [List.getElem?_eq_getElem hi] at hx; cases hx; exact h4
 have build : ∀ n, n ≤ xs.length → ∃ rows : List (List Value), rows.length = n ∧ ∀ i row, rows[i]? = some row → ∃ a0 a', a = some a0 ∧ elemAddr a0 (i * R.k) = some a' ∧ cellsAt h a' R.k = some row ∧ ∀ x, xs[i]? = some x → R.C h row x := by
  intro n
  induction n with
  | zero => intro _; exact ⟨[], rfl, fun i row hr => by simp at hr⟩
  | succ n ih =>
   intro hn
   obtain ⟨rows, h1, h2⟩ := ih (by omega)
   obtain ⟨row, hrow⟩ := hex n (by omega)
   refine ⟨rows ++ [row], by simp [h1], fun i r hr => ?_⟩
   rw [List.getElem?_append] at hr
   split at hr
   ·
    exact h2 i r hr
   ·
    have : i - rows.length = 0 := by
     cases e : i - rows.length with
     | zero => rfl
     | succ j => rw [e] at hr; simp at hr
    rw [this] at hr
    have hi : i = n := by omega
    cases hr; subst hi; exact hrow
 obtain ⟨rows, h1, h2⟩ := build xs.length (Nat.le_refl _)
 have hw : Rws R h rows xs := ⟨h1, fun i row x hr hx => by obtain ⟨_, _, _, _, _, h⟩ := h2 i row hr; exact h x hx⟩
 refine ⟨rows, hw, ?_⟩
 unfold firstV
 cases a with
 | none =>
  have : rows = [] := by
   cases rows with
   | nil => rfl
   | cons r rs => obtain ⟨a0, _, e, _⟩ := h2 0 r rfl; cases e
  subst this; rfl
 | some a0 =>
  dsimp only
  cases e0 : Nat.beq (xs.length * R.k) 0 with
  | true =>
   have : rows = [] := by
    have := Nat.eq_of_beq_eq_true e0
    have : xs.length = 0 := by
     rcases Nat.mul_eq_zero.mp this with q | q
     ·
      exact q
     ·
      omega
    exact List.length_eq_zero_iff.mp (by omega)
   subst this; rfl
  | false =>
   simp only [cond_false]
   have hpos : 0 < xs.length := by
    rcases Nat.eq_zero_or_pos xs.length with q | q
    ·
     rw [q, Nat.zero_mul] at e0; cases e0
    ·
     exact q
   obtain ⟨b, o, sp⟩ := a0
   have hel : ∀ i row, rows[i]? = some row → ∃ sp', elemAddr ⟨b, o, sp⟩ 0 = some ⟨b, o, sp'⟩ ∧ cellsAt h ⟨b, o + i * R.k, sp'⟩ R.k = some row := by
    intro i row hr
    obtain ⟨a0, a', ea, e1, e2, _⟩ := h2 i row hr
    cases ea
    unfold elemAddr at e1 ⊢
    dsimp only at e1 ⊢
    split at e1
    ·
     cases e1; exact ⟨none, rfl, e2⟩
    ·
     cases e1; exact ⟨none, rfl, e2⟩
    ·
     cases e1; exact ⟨some 1, rfl, e2⟩
    ·
     cases e1
   obtain ⟨sp', hsp, _⟩ := hel 0 rows[0] (List.getElem?_eq_getElem (by omega))
   rw [hsp]; dsimp only
   have hel2 : ∀ i row, rows[i]? = some row → cellsAt h ⟨b, o + i * R.k, sp'⟩ R.k = some row := by
    intro i row hr
    obtain ⟨sp2, e1, e2⟩ := hel i row hr
    rw [hsp] at e1; cases e1; exact e2
   have hrk : ∀ row ∈ rows, row.length = R.k := hw.k
   have gen : ∀ (rows : List (List Value)) (o : Nat), rows ≠ [] → (∀ i row, rows[i]? = some row → cellsAt h ⟨b, o + i * R.k, sp'⟩ R.k = some row) → cellsAt h ⟨b, o, sp'⟩ (rows.length * R.k) = some rows.flatten := by
    intro rows
    induction rows with
    | nil => intro o hne; exact absurd rfl hne
    | cons r rs ih =>
     intro o _ hr
     have h0 := hr 0 r rfl
     rw [Nat.zero_mul, Nat.add_zero] at h0
     cases rs with
     | nil => simpa using h0
     | cons r2 rs =>
      have hi := ih (o + R.k) (by simp) (fun i row hrow => by
       have := hr (i + 1) row (by simpa using hrow)
       rw [Nat.succ_mul] at this
       rw [show o + R.k + i * R.k = o + (i * R.k + R.k) by omega]; exact this)
      generalize (r2 :: rs) = rs at hi
      rw [List.flatten_cons, List.length_cons, Nat.succ_mul]
      clear ih hr
      unfold cellsAt at h0 hi ⊢
      cases sp' with
      | none =>
       dsimp only at h0 hi ⊢
       split at h0
       ·
        rename_i c T hg
        simp only [hg] at hi ⊢
        cases q1 : Nat.ble (o + R.k) c.length with
        | false => rw [q1] at h0; cases h0
        | true =>
         cases q2 : Nat.ble (o + R.k + rs.length * R.k) c.length with
         | false => rw [q2] at hi; cases hi
         | true =>
          rw [q1] at h0; rw [q2] at hi
          cases h0
          have n2 := Nat.le_of_ble_eq_true q2
          rw [Nat.ble_eq_true_of_le (show o + (rs.length * R.k + R.k) ≤ c.length by omega)]
          simp only [cond_true, Option.some.injEq] at hi ⊢
          rw [← hi, Nat.add_comm (rs.length * R.k), List.take_add, List.drop_drop]
       ·
        cases h0
      | some s =>
       cases s with
       | zero => cases h0
       | succ s =>
        cases s with
        | succ s => cases h0
        | zero =>
         dsimp only at h0 hi ⊢
         have add : ∀ (n m o : Nat) (x y : List Value), baseCells h b o n = some x → baseCells h b (o + n) m = some y → baseCells h b o (n + m) = some (x ++ y) := by
          intro n
          induction n with
          | zero => intro m o x y hx hy; cases hx; rw [Nat.zero_add]; simpa using hy
          | succ n ih =>
           intro m o x y hx hy
           unfold baseCells at hx
           split at hx
           ·
            rename_i v hv
            split at hx
            ·
             rename_i x' hx'
             cases hx
             have := ih m (o + 1) x' y hx' (by rw [show o + 1 + n = o + (n + 1) by omega]; exact hy)
             rw [show n + 1 + m = (n + m) + 1 by omega]
             unfold baseCells
             rw [hv]; dsimp only; rw [this]; rfl
            ·
             cases hx
           ·
            cases hx
         rw [Nat.add_comm (rs.length * R.k) R.k]; exact add _ _ _ _ _ h0 hi
   rw [← h1]
   exact gen rows o (by intro e; subst e; simp at h1; omega) hel2
structure SubOK {α : Type} (R : Rep α) (E : Env) (h : Heap) (t : TypeId) (a : Option Addr) (xs ys : List α) (c : Nat) (l u : Int) (a' : Option Addr) (c' : Nat) : Prop where
 both : ∀ {hf : Heap} {ik ik' : IntKind}, Kn h hf → sliceV E hf t (.slice a xs.length c) (some (.int ik l)) (some (.int ik' u)) none = some (.slice a' ys.length c')
 lo : ∀ {hf : Heap} {ik : IntKind}, Kn h hf → u = (xs.length : Int) → sliceV E hf t (.slice a xs.length c) (some (.int ik l)) none none = some (.slice a' ys.length c')
 hi : ∀ {hf : Heap} {ik : IntKind}, Kn h hf → l = 0 → sliceV E hf t (.slice a xs.length c) none (some (.int ik u)) none = some (.slice a' ys.length c')
 full : ∀ {hf : Heap}, Kn h hf → l = 0 → u = (xs.length : Int) → sliceV E hf t (.slice a xs.length c) none none none = some (.slice a' ys.length c')
 rl : RL R h a' c' ys
def AccR {α : Type} (R : Rep α) (elem : TypeId) (h : Heap) (tl : List Blk) (v : Value) (xs : List α) : Prop :=
 xs.length < 9223372036854775808 ∧ ((xs = [] ∧ (∃ a, v = .slice a 0 0 ∧ ∀ a0, a = some a0 → a0.spot = none) ∧ tl = []) ∨ ∃ b rows, v = .slice (some ⟨b, 0, some 0⟩) xs.length xs.length ∧ tl = [⟨b, .cells rows.flatten elem⟩] ∧ Rws R h rows xs)
theorem AccR.nil {α : Type} (R : Rep α) (elem : TypeId) (h : Heap) : AccR R elem h [] (.slice none 0 0) [] := ⟨by simp, .inl ⟨rfl, ⟨none, rfl, fun _ h => by cases h⟩, rfl⟩⟩
theorem AccR.lit {α : Type} (R : Rep α) (elem : TypeId) (h : Heap) (b : Nat) : AccR R elem h [] (.slice (some ⟨b, 0, none⟩) 0 0) [] := ⟨by simp, .inl ⟨rfl, ⟨_, rfl, fun _ h => by cases h; rfl⟩, rfl⟩⟩
theorem AccR.ext {α : Type} {R : Rep α} {elem : TypeId} {h h' : Heap} {tl : List Blk} {v : Value} {xs : List α} (a : AccR R elem h tl v xs) (e : Kn h h') : AccR R elem h' tl v xs := by
 obtain ⟨h1, h2 | ⟨b, rows, h2, h3, h4⟩⟩ := a
 ·
  exact ⟨h1, .inl h2⟩
 ·
  exact ⟨h1, .inr ⟨b, rows, h2, h3, h4.ext e⟩⟩
theorem AccR.shape {α : Type} {R : Rep α} {elem : TypeId} {h : Heap} {tl : List Blk} {v : Value} {xs : List α} (a : AccR R elem h tl v xs) : ∃ p, v = .slice p xs.length xs.length := by
 obtain ⟨_, ⟨h1, ⟨p, h2, _⟩, h3⟩ | ⟨b, rows, h2, h3, h4⟩⟩ := a
 ·
  subst h1; exact ⟨p, h2⟩
 ·
  exact ⟨_, h2⟩
theorem roomy_lt {n B : Nat} (h : roomy n B = true) : n < 9223372036854775808 := by
 unfold roomy at h
 rw [Bool.and_eq_true] at h
 have h1 := Nat.le_of_ble_eq_true h.1
 have h2 : 0 < B := by have := h.2; simp [Nat.blt] at this; omega
 have : (n + n / 4 + 1024) * 1 ≤ (n + n / 4 + 1024) * B := Nat.mul_le_mul_left _ h2
 omega
theorem g_app {α : Type} {R : Rep α} (A B : List Blk) {tl : List Blk} {xs ys : List α} {args : Array Operand} {ts : Array TypeId} {sT elem k bytes n : Nat} {v xv z : Value} {rows2 : List (List Value)}
 (hn : Nat.blt d X.nt = true) (hx : OPs l true args.toList [v, xv]) (ht : ts[0]? = some sT) (hu : X.E.P.underlying sT = some (.slice elem)) (hk : sz X.E.P elem = some k) (hkR : k = R.k) (hk0 : 0 < k)
 (hby : bytesOf X.E.P elem = some bytes) (hz : zeroOf X.E.P elem = some z) (hzz : Nat.beq z.cells.size k = true) (hzs : zerosV X.E.P ts = some false)
 (hlen : lenOfV xv = some n) (hnl : n = ys.length) (hfirst : ∀ h' hf, Has own h0 h' hf → firstV h' k n xv = some rows2.flatten) (hr2 : Rws R h0 rows2 ys)
 (acc : AccR R elem h0 tl v xs) (hr : roomy (xs.length + ys.length) bytes = true) (hown : own = A ++ (tl ++ B))
 (kk0 : ∀ p tl', AccR R elem h0 tl' (.slice p (xs ++ ys).length (xs ++ ys).length) (xs ++ ys) → Goes X (.ops r false os :: st) ((d, true, .slice p (xs ++ ys).length (xs ++ ys).length) :: l) (A ++ (tl' ++ B)) h0) :
 Goes X (.ops r false (⟨some d, .call ⟨.builtin .append, args, ts⟩, ty, pos, aft, none⟩ :: os) :: st) l own h0 := by
 have kk : ∀ v' tl', AccR R elem h0 tl' v' (xs ++ ys) → Goes X (.ops r false os :: st) ((d, true, v') :: l) (A ++ (tl' ++ B)) h0 := by
  intro v' tl' a
  obtain ⟨p, hp⟩ := a.shape
  subst hp
  exact kk0 p tl' a
 subst hown hkR hnl
 intro fr h hf ag hs
 have hf1 := hfirst h hf hs
 have hl2 := hr2.flen
 have hnew : newV X.E h elem R.k bytes false xv = some (ys.length, rows2.flatten) := by
  simp only [newV, cond_false, hlen, hf1]
 have hbeq : Nat.beq rows2.flatten.length (ys.length * R.k) = true := by rw [hl2]; exact Nat.beq_refl _
 have hlt : (xs ++ ys).length < 9223372036854775808 := by rw [List.length_append]; exact roomy_lt hr
 obtain ⟨hxl, ⟨h1, ⟨p0, h2, hp0⟩, h3⟩ | ⟨b, rows, h1, h2, h3⟩⟩ := acc
 ·
  subst h1 h2 h3
  rcases Nat.eq_zero_or_pos ys.length with e0 | e0
  ·
   have ey : ys = [] := List.length_eq_zero_iff.mp e0
   subst ey
   have ho : opV X.E (run X.E 0) fr h (.call ⟨.builtin .append, args, ts⟩) = some (.slice p0 0 0, h) := by
    simp only [opV, readV, writeV, hx fr ag rfl, appendV, ht, hu, hk, hby, hz, hzs, hnew, hbeq, cond_true]
    have : Nat.ble (0 + ([] : List α).length) 0 = true := rfl
    rw [this]
    simp only [cond_true, putV, List.length_nil, Nat.zero_mul]
    rfl
   refine step_op rfl ho (put_some hn _ _) ?_
   exact kk (.slice p0 0 0) [] ⟨hlt, .inl ⟨rfl, ⟨p0, rfl, hp0⟩, rfl⟩⟩ _ _ _ (ag.set d true _) hs
  ·
   have ho : opV X.E (run X.E 0) fr h (.call ⟨.builtin .append, args, ts⟩) = some (.slice (some ⟨h.n, 0, some 0⟩) ys.length ys.length, h.alloc (.cells rows2.flatten elem)) := by
    simp only [opV, readV, writeV, hx fr ag rfl, appendV, ht, hu, hk, hby, hz, hzs, hnew, hbeq, cond_true, Nat.zero_add]
    have : Nat.ble ys.length 0 = false := by
     cases e : Nat.ble ys.length 0
     ·
      rfl
     ·
      exact absurd (Nat.le_of_ble_eq_true e) (by omega)
    rw [this]
    have hr' : roomy ys.length bytes = true := by simpa using hr
    simp only [cond_false, hr', hzz, Bool.and_self, cond_true, growV]
    have : Nat.beq 0 0 = true := rfl
    cases p0 with
    | none =>
     dsimp only
     rw [this]
     simp only [cond_true, Nat.zero_add]
    | some q =>
     obtain ⟨qb, qo, qs⟩ := q
     have : qs = none := hp0 _ rfl
     subst this
     simp only [isSlack, cond_false, firstV, Nat.zero_mul]
     have : Nat.beq 0 0 = true := rfl
     rw [this]
     simp only [cond_true, List.nil_append, Nat.zero_add]
   refine step_op rfl ho (put_some hn _ _) ?_
   have hp : (⟨h.n, .cells rows2.flatten elem⟩ :: (A ++ ([] ++ B))).Perm (A ++ ([⟨h.n, .cells rows2.flatten elem⟩] ++ B)) := by
    rw [List.nil_append]; exact (List.perm_middle (l₁ := A) (l₂ := B)).symm
   exact kk _ [⟨h.n, .cells rows2.flatten elem⟩] ⟨hlt, .inr ⟨h.n, rows2, by simp, rfl, by simpa using hr2⟩⟩ _ _ _ (ag.set d true _) ((hs.alloc (.cells rows2.flatten elem)).perm hp)
 ·
  subst h1 h2
  rcases Nat.eq_zero_or_pos ys.length with e0 | e0
  ·
   have ey : ys = [] := List.length_eq_zero_iff.mp e0
   subst ey
   have ho : opV X.E (run X.E 0) fr h (.call ⟨.builtin .append, args, ts⟩) = some (.slice (some ⟨b, 0, some 0⟩) xs.length xs.length, h) := by
    simp only [opV, readV, writeV, hx fr ag rfl, appendV, ht, hu, hk, hby, hz, hzs, hnew, hbeq, cond_true]
    have : Nat.ble (xs.length + ([] : List α).length) xs.length = true := Nat.ble_eq_true_of_le (by simp)
    rw [this]
    simp only [cond_true, putV, List.length_nil, Nat.zero_mul, Nat.add_zero]
    rfl
   refine step_op rfl ho (put_some hn _ _) ?_
   exact kk _ [⟨b, .cells rows.flatten elem⟩] ⟨hlt, .inr ⟨b, rows, by simp, rfl, by simpa using h3⟩⟩ _ _ _ (ag.set d true _) hs
  ·
   have hi : (A ++ ([(⟨b, .cells rows.flatten elem⟩ : Blk)] ++ B))[A.length]? = some ⟨b, .cells rows.flatten elem⟩ := by simp
   obtain ⟨hb, hlim⟩ := hs.at_ hi
   have fl := h3.flen
   have ho : opV X.E (run X.E 0) fr h (.call ⟨.builtin .append, args, ts⟩) = some (.slice (some ⟨h.n, 0, some 0⟩) (xs.length + ys.length) (xs.length + ys.length), (h.set b .dead).alloc (.cells (rows.flatten ++ rows2.flatten) elem)) := by
    simp only [opV, readV, writeV, hx fr ag rfl, appendV, ht, hu, hk, hby, hz, hzs, hnew, hbeq, cond_true]
    have : Nat.ble (xs.length + ys.length) xs.length = false := by
     cases e : Nat.ble (xs.length + ys.length) xs.length
     ·
      rfl
     ·
      exact absurd (Nat.le_of_ble_eq_true e) (by omega)
    rw [this]
    simp only [cond_false, hr, hzz, Bool.and_self, cond_true, growV, isSlack, hb]
    have q1 : Nat.ble h.lim b = true := Nat.ble_eq_true_of_le hlim
    have q2 : Nat.beq elem elem = true := Nat.beq_refl elem
    have q3 : Nat.ble (0 + xs.length * R.k) rows.flatten.length = true := Nat.ble_eq_true_of_le (by omega)
    simp only [q1, q2, q3, hr2.all, Bool.and_self, cond_true, List.drop_zero, Option.some.injEq, Prod.mk.injEq, true_and]
    rw [← fl, List.take_length]
   refine step_op rfl ho (put_some hn _ _) ?_
   have hkill : Has (A ++ B) h0 (h.set b .dead) hf := by
    have := hs.kill hi
    rwa [show (A ++ ([(⟨b, .cells rows.flatten elem⟩ : Blk)] ++ B)).eraseIdx A.length = A ++ B by rw [List.eraseIdx_append_of_length_le (Nat.le_refl _)]; simp] at this
   have hp : (⟨h.n, .cells (rows.flatten ++ rows2.flatten) elem⟩ :: (A ++ B)).Perm (A ++ ([⟨h.n, .cells (rows.flatten ++ rows2.flatten) elem⟩] ++ B)) := (List.perm_middle (l₁ := A) (l₂ := B)).symm
   exact kk _ [⟨h.n, .cells (rows.flatten ++ rows2.flatten) elem⟩] ⟨hlt, .inr ⟨h.n, rows ++ rows2, by simp, by simp, h3.app hr2⟩⟩ _ _ _ (ag.set d true _) ((hkill.alloc (.cells (rows.flatten ++ rows2.flatten) elem)).perm hp)
theorem first_e {k n : Nat} {xv : Value} {vs : List Value} (h : firstV h0 k n xv = some vs) (he : ∀ h', Kn h0 h' → firstV h' k n xv = some vs) :
 ∀ h' hf, Has own h0 h' hf → firstV h' k n xv = some vs := fun h' hf hs => hs.msk.firstV (he hf hs.ext.kn)
theorem Kn.firstV {h h' : Heap} (e : Kn h h') {k n : Nat} {x : Value} {l : List Value} (hc : firstV h k n x = some l) : V.firstV h' k n x = some l := by
 unfold V.firstV at hc ⊢
 split at hc
 ·
  rename_i a _ _
  cases e0 : Nat.beq (n * k) 0 with
  | true => rw [e0] at hc; exact hc
  | false =>
   rw [e0] at hc
   simp only [cond_false] at hc ⊢
   split at hc
   ·
    exact e.cellsAt hc
   ·
    cases hc
 ·
  exact hc
 ·
  exact hc
 ·
  cases hc
theorem acc_pub {α : Type} {R : Rep α} {elem : TypeId} (A B : List Blk) {tl : List Blk} {p : Option Addr} {xs : List α} (acc : AccR R elem h0 tl (.slice p xs.length xs.length) xs) (hown : own = A ++ (tl ++ B))
 (kk : ∀ h1, HExt h0 h1 → Wf h1 → RL R h1 p xs.length xs → Goes X st l (A ++ B) h1) (hT : elem = R.T) : Goes X st l own h0 := by
 subst hown
 obtain ⟨hxl, ⟨h1, ⟨p0, h2, hp0⟩, h3⟩ | ⟨b, rows, h1, h2, h3⟩⟩ := acc
 ·
  subst h1 h3
  have hp : p = p0 := by simpa using h2
  subst hp
  rw [List.nil_append]
  exact Goes.fwd (fun h1 e w => kk h1 e w ⟨by simp, Nat.zero_le _, fun i x hx => by simp at hx, fun a0 e1 e2 => by rw [hp0 a0 e1] at e2; cases e2⟩)
 ·
  have hp : p = some ⟨b, 0, some 0⟩ := by simpa using h1
  subst hp h2
  have hi : (A ++ ([(⟨b, .cells rows.flatten elem⟩ : Blk)] ++ B))[A.length]? = some ⟨b, .cells rows.flatten elem⟩ := by simp
  refine go_pub A.length hi (fun h1 e w hb => ?_)
  rw [show (A ++ ([(⟨b, .cells rows.flatten elem⟩ : Blk)] ++ B)).eraseIdx A.length = A ++ B by rw [List.eraseIdx_append_of_length_le (Nat.le_refl _)]; simp]
  exact kk h1 e w (RL.of_blk (.inr rfl) hb rfl (h3.ext e.kn) hxl (Nat.le_refl _) hT)
end
def shrI (k : IntKind) (a b : Int) : Int := a.fdiv (2 ^ (min b.toNat k.bits))
def shlI (k : IntKind) (a b : Int) : Int := k.wrap (a * 2 ^ (min b.toNat k.bits))
def andI (k : IntKind) (a b : Int) : Int := k.wrap (BitVec.ofInt k.bits a &&& BitVec.ofInt k.bits b).toNat
def orI (k : IntKind) (a b : Int) : Int := k.wrap (BitVec.ofInt k.bits a ||| BitVec.ofInt k.bits b).toNat
def mfind {K V : Type} [DecidableEq K] : List (K × V) → K → Nat → Option (Nat × V)
 | [], _, _ => none
 | e :: r, k, i => if k = e.1 then some (i, e.2) else mfind r k (i + 1)
def mget {K V : Type} [DecidableEq K] (es : List (K × V)) (k : K) : Option V := (mfind es k 0).map Prod.snd
def mset {K V : Type} [DecidableEq K] (es : List (K × V)) (k : K) (v : V) : List (K × V) := match mfind es k 0 with
 | some p => es.set p.1 (k, v)
 | none => es ++ [(k, v)]
section
variable {X : Cx} {st : List It} {l : L} {own : List Blk} {h0 : Heap}
variable {r : Array Oper} {q : Bool} {os : List Oper} {d : Nat} {ty : TypeId} {pos : String} {aft : Array Edge}
end
def okI (k : IntKind) (x : Int) : Prop := (Lit.int k x).wf = true
theorem okI_i64 {x : Int} (h : okI .i64 x) : -9223372036854775808 ≤ x ∧ x ≤ 9223372036854775807 := by
 unfold okI at h
 simp [Lit.wf, IntKind.min, IntKind.max, IntKind.signed, IntKind.bits] at h
 omega
section
variable {H : Type} {enc : TypeId × Value → H} {P : Program} {W : World} {spare : Nat → Bool} {held : Bool}
def OpenT {α : Type} (enc : TypeId × Value → H) (P : Program) (W : World) (spare : Nat → Bool) (held : Bool) (t : TypeId) (R : Rep α) (ok : α → Prop) : Prop :=
 ∀ fuel cs y, DataW.trod enc P W 0 spare held fuel t cs = some y → ∃ a : α, R.C (heap0 W) (cs.map flagS) a ∧ cs.all okC = true ∧ ok a
theorem open_RL {α : Type} {t e : TypeId} {R : Rep α} {ok : α → Prop} (ht : P.underlying t = some (.slice e)) (hk : P.cellsOf e = R.k) (hk0 : 0 < R.k) (he : OpenT enc P W spare held e R ok) {T : Nat} :
 OpenT enc P W spare held t (Rep.sl R T) (fun l => (∀ a ∈ l, ok a) ∧ l.length ≤ maxLen) := by
 intro fuel cs x hd
 rcases Go.Deep.open_slice ht hd with ⟨hc, _⟩ | ⟨a, len, cap, m, n, D, Pl, hc, _, hl, hm, hmm, _, hx⟩
 ·
  subst hc
  exact ⟨[], ⟨none, 0, rfl, RL.nil _ _ _⟩, rfl, fun _ h => (by cases h), Nat.zero_le _⟩
 ·
  subst hc
  have hlm : len ≤ m := by rw [hmm]; split <;> omega
  have hex : ∀ i, i < len → ∃ q : α, ∃ cs', W.cells? 0 (a.add (i * R.k)) R.k = some cs' ∧ R.C (heap0 W) (cs'.map flagS) q ∧ cs'.all okC = true ∧ ok q := by
   intro i hi
   obtain ⟨cs', h1, h2⟩ := hx i (by omega)
   rw [hk] at h1
   obtain ⟨q, h3, h4, h5⟩ := he _ _ _ h2
   exact ⟨q, cs', h1, h3, h4, h5⟩
  have build : ∀ n, n ≤ len → ∃ l : List α, l.length = n ∧ ∀ (i : Nat) (q : α), l[i]? = some q → ∃ cs', W.cells? 0 (a.add (i * R.k)) R.k = some cs' ∧ R.C (heap0 W) (cs'.map flagS) q ∧ cs'.all okC = true ∧ ok q := by
   intro n
   induction n with
   | zero => intro _; exact ⟨[], rfl, fun i q h => by simp at h⟩
   | succ n ih =>
    intro hn
    obtain ⟨l, h1, h2⟩ := ih (by omega)
    obtain ⟨q, hq⟩ := hex n (by omega)
    refine ⟨l ++ [q], by simp [h1], fun i r hr => ?_⟩
    rw [List.getElem?_append] at hr
    split at hr
    ·
     exact h2 i r hr
    ·
     rename_i hlt
     cases e : i - l.length with
     | zero =>
      rw [e] at hr
      have : i = n := by omega
      subst this
      have : q = r := by simpa using hr
      subst this
      exact hq
     | succ j => rw [e] at hr; simp at hr
  obtain ⟨l, h1, h2⟩ := build len (Nat.le_refl _)
  subst h1
  refine ⟨l, ⟨some (flagA a), cap, rfl, ⟨?_, hl, ?_, ?_⟩⟩, rfl, ?_, by omega⟩
  ·
   have : maxLen = 9223372036854775807 := rfl
   omega
  ·
   intro i q e
   obtain ⟨cs', g1, g2, g3, _⟩ := h2 i q e
   obtain ⟨_, gl, gc⟩ := World.cells?_some g1
   have hs : a.spot = none := by
    have hl0 : 0 < l.length := by
     rcases Nat.lt_or_ge i l.length with q | q
     ·
      omega
     ·
      rw [List.getElem?_eq_none q] at e; cases e
    obtain ⟨cs0, f1, _, _, _⟩ := h2 0 (l[0]) (List.getElem?_eq_getElem hl0)
    obtain ⟨_, fl, fc⟩ := World.cells?_some f1
    have f0 := fc 0 (by omega)
    cases hs : a.spot with
    | none => rfl
    | some s =>
     exfalso
     have : W.cell? ((a.add (0 * R.k)).add 0) = none := by
      unfold World.cell?
      split
      ·
       have : (((a.add (0 * R.k)).add 0).spot) = some s := by rw [Nat.zero_mul]; unfold Addr.add; simpa using hs
       rw [this]; rfl
      ·
       rfl
     rw [this] at f0
     cases cs0 with
     | nil => simp at fl; omega
     | cons _ _ => cases f0
   obtain ⟨b, o, s⟩ := a
   cases hs
   refine ⟨flagA ⟨b, o, none⟩, ⟨b, o + i * R.k, some 1⟩, cs'.map flagS, rfl, rfl, ?_, g2⟩
   show baseCells (heap0 W) b (o + i * R.k) R.k = some (cs'.map flagS)
   refine base_cells (W := W) (cs := cs') rfl gl (fun j w hw => ?_)
   have hj : j < R.k := by
    rcases Nat.lt_or_ge j R.k with q | q
    ·
     exact q
    ·
     rw [List.getElem?_eq_none (by omega)] at hw; cases hw
   have := gc j hj
   rw [hw] at this
   have ad : ((⟨b, o, none⟩ : Addr).add (i * R.k)).add j = ⟨b, o + i * R.k + j, none⟩ := by
    unfold Addr.add; split <;> split <;> simp_all
   rw [ad] at this
   exact ⟨this, List.all_eq_true.mp g3 w (List.mem_of_getElem? hw)⟩
  ·
   intro a0 e1 e2
   cases e1
   unfold flagA at e2
   split at e2
   ·
    cases e2
   ·
    cases e2
  ·
   intro q hq
   obtain ⟨i, hi⟩ := List.mem_iff_getElem?.mp hq
   obtain ⟨_, _, _, _, h⟩ := h2 i q hi
   exact h
theorem open_int {t : TypeId} {k : IntKind} (ht : P.underlying t = some (.int k)) {T : Nat} : OpenT enc P W spare held t (RI_ k T) (okI k) := by
 intro fuel cs y h
 obtain ⟨x, e, _, w⟩ := DataW.trod_int ht h
 subst e
 exact ⟨x, rfl, rfl, w⟩
theorem open_bool {t : TypeId} (ht : P.underlying t = some .bool) {T : Nat} : OpenT enc P W spare held t (RB_ T) (fun _ => True) := by
 intro fuel cs y h
 obtain ⟨x, e, _⟩ := DataW.trod_bool ht h
 subst e
 exact ⟨x, rfl, rfl, trivial⟩
end
theorem pf (pre post : List (List Blk)) (s : List Blk) : (pre ++ s :: post).flatten.Perm (s ++ (pre ++ post).flatten) := by
 rw [List.flatten_append, List.flatten_cons, List.flatten_append]
 exact List.perm_append_comm_assoc _ _ _
inductive SetSeg (s s' : List Blk) : List (List Blk) → List (List Blk) → Prop
 | z {r : List (List Blk)} : SetSeg s s' (s :: r) (s' :: r)
 | s {a : List Blk} {r r' : List (List Blk)} (h : SetSeg s s' r r') : SetSeg s s' (a :: r) (a :: r')
inductive DelSeg (s : List Blk) : List (List Blk) → List (List Blk) → Prop
 | z {r : List (List Blk)} : DelSeg s (s :: r) r
 | s {a : List Blk} {r r' : List (List Blk)} (h : DelSeg s r r') : DelSeg s (a :: r) (a :: r')
theorem SetSeg.pp {s s' : List Blk} {a b : List (List Blk)} (h : SetSeg s s' a b) : ∃ pre post, a = pre ++ s :: post ∧ b = pre ++ s' :: post := by
 induction h with
 | z => exact ⟨[], _, rfl, rfl⟩
 | s h ih => obtain ⟨pre, post, h1, h2⟩ := ih; exact ⟨_ :: pre, post, by rw [h1]; rfl, by rw [h2]; rfl⟩
theorem DelSeg.pp {s : List Blk} {a b : List (List Blk)} (h : DelSeg s a b) : ∃ pre post, a = pre ++ s :: post ∧ b = pre ++ post := by
 induction h with
 | z => exact ⟨[], _, rfl, rfl⟩
 | s h ih => obtain ⟨pre, post, h1, h2⟩ := ih; exact ⟨_ :: pre, post, by rw [h1]; rfl, by rw [h2]; rfl⟩
theorem mem_seg {segs : List (List Blk)} (i : Nat) {e : Blk} (h : segs[i]? = some [e]) : e ∈ segs.flatten :=
 List.mem_flatten.mpr ⟨[e], List.mem_of_getElem? h, List.mem_singleton.mpr rfl⟩
theorem sub_flat {a b : List (List Blk)} (h : a.Sublist b) : a.flatten.Sublist b.flatten := by
 induction h with
 | slnil => exact List.Sublist.refl _
 | cons x h ih => rw [List.flatten_cons]; exact ih.trans (List.sublist_append_right _ _)
 | cons_cons x h ih => rw [List.flatten_cons, List.flatten_cons]; exact List.Sublist.append (List.Sublist.refl _) ih
section
variable {E : Env} {l : L} {own : List Blk} {h0 : Heap} {g : Bool}
theorem lm_s {t T : TypeId} {b off : Nat} {cs : List Value} {v : Value} (hi : (⟨b, .cells cs T⟩ : Blk) ∈ own) (ht : isAggT E.P t = some false) (hv : cs[off]? = some v) : Lo E own h0 t ⟨b, off, none⟩ v := by
 intro h hf hs
 have := (hs.blk _ hi).1
 dsimp only at this
 simp only [loadV, ht, cellAt, this]; exact hv
theorem lm_a {t T : TypeId} {b off k : Nat} {cs vs : List Value} (hi : (⟨b, .cells cs T⟩ : Blk) ∈ own) (ht : isAggT E.P t = some true) (hz : sz E.P t = some k) (hl : Nat.ble (off + k) cs.length = true)
 (hv : (cs.drop off).take k = vs) : Lo E own h0 t ⟨b, off, none⟩ (.agg vs.toArray) := by
 intro h hf hs
 have := (hs.blk _ hi).1
 dsimp only at this
 simp only [loadV, ht, hz, cellsAt, this, hl, cond_true, hv]
theorem lm_w {t T : TypeId} {b k : Nat} {cs : List Value} (hi : (⟨b, .cells cs T⟩ : Blk) ∈ own) (ht : isAggT E.P t = some true) (hz : sz E.P t = some k) (hl : cs.length = k) : Lo E own h0 t ⟨b, 0, none⟩ (.agg cs.toArray) := by
 intro h hf hs
 have := (hs.blk _ hi).1
 dsimp only at this
 have h2 : Nat.ble (0 + k) cs.length = true := by rw [hl, Nat.zero_add]; exact Nat.ble_self_eq_true k
 simp only [loadV, ht, hz, cellsAt, this, h2, cond_true, List.drop_zero]
 rw [← hl, List.take_length]
theorem first_m {k bx cx : Nat} {T : TypeId} {row : List Value} (hj : (⟨bx, .cells row T⟩ : Blk) ∈ own) (hrl : row.length = k) (hk : 0 < k) :
 ∀ h' hf, Has own h0 h' hf → firstV h' k 1 (.slice (some ⟨bx, 0, none⟩) 1 cx) = some [row].flatten := by
 intro h' hf hs
 have hjb := (hs.blk _ hj).1
 dsimp only at hjb
 unfold firstV
 rw [Nat.one_mul, Trie.nb (by omega : ¬ k = 0)]
 simp only [cond_false, elemAddr, cellsAt, Nat.zero_add, hjb]
 have : Nat.ble k row.length = true := Nat.ble_eq_true_of_le (by omega)
 rw [this]
 simp only [cond_true, List.drop_zero, Option.some.injEq]
 rw [← hrl, List.take_length]; simp
end
section
variable {X : Cx} {st : List It} {l : L} {own : List Blk} {h0 : Heap} {pre post segs : List (List Blk)}
variable {r : Array Oper} {q : Bool} {os : List Oper} {d : Nat} {ty : TypeId} {pos : String} {aft : Array Edge}
theorem gs_alloc {t : TypeId} {z : Value} {cs : List Value} (hn : Nat.blt d X.nt = true) (hz : zeroOf X.E.P t = some z) (hc : z.cells.toList = cs)
 (k : ∀ b, Goes X (.ops r false os :: st) ((d, true, .pointer (some ⟨b, 0, none⟩)) :: l) ([⟨b, .cells cs t⟩] :: segs).flatten h0) :
 Goes X (.ops r false (⟨some d, .alloc t, ty, pos, aft, none⟩ :: os) :: st) l segs.flatten h0 := g_alloc hn hz hc k
theorem gs_box {t : TypeId} {x : Operand} {v : Value} {cs : List Value} (hn : Nat.blt d X.nt = true) (hx : OP l true x v) (hc : v.cells.toList = cs)
 (k : ∀ b, Goes X (.ops r false os :: st) ((d, true, .pointer (some ⟨b, 0, none⟩)) :: l) ([⟨b, .cells cs t⟩] :: segs).flatten h0) :
 Goes X (.ops r false (⟨some d, .box t x, ty, pos, aft, none⟩ :: os) :: st) l segs.flatten h0 := g_box hn hx hc k
theorem gs_bslice {t elem : TypeId} {len k : Nat} {ps : Array (Nat × Operand)} {vs : List (Nat × Value)} {z : Value} {cs : List Value} (hn : Nat.blt d X.nt = true) (hx : OPp l true ps.toList vs)
 (hu : X.E.P.underlying t = some (.slice elem)) (hk : sz X.E.P elem = some k) (hz : zeroOf X.E.P elem = some z) (hs : (Nat.ble (len * k) 16777216 && Nat.beq z.cells.size k) = true)
 (hc : fillL (fun i => some (i * k, k)) (repZ z.cells.toList len) vs = some cs)
 (kk : ∀ b, Goes X (.ops r false os :: st) ((d, true, .slice (some ⟨b, 0, none⟩) len len) :: l) ([⟨b, .cells cs elem⟩] :: segs).flatten h0) :
 Goes X (.ops r false (⟨some d, .buildSlice t len ps, ty, pos, aft, none⟩ :: os) :: st) l segs.flatten h0 := g_bslice hn hx hu hk hz hs hc kk
theorem gs_mslice {t elem : TypeId} {L C : Operand} {n c k b : Nat} {z : Value} {cs : List Value} (hn : Nat.blt d X.nt = true) (hL : OP l true L (.int .i64 n)) (hC : OP l true C (.int .i64 c))
 (hu : X.E.P.underlying t = some (.slice elem)) (hk : sz X.E.P elem = some k) (hb : bytesOf X.E.P elem = some b) (hz : zeroOf X.E.P elem = some z)
 (hs : (decide ((0 : Int) ≤ n ∧ (n : Int) ≤ c ∧ (c : Int) ≤ 140737488355328 ∧ (b : Int) * c ≤ 281474976710656) && Nat.beq z.cells.size k) = true)
 (hc : repZ z.cells.toList c = cs) (kk : ∀ b, Goes X (.ops r false os :: st) ((d, true, .slice (some ⟨b, 0, none⟩) n c) :: l) ([⟨b, .cells cs elem⟩] :: segs).flatten h0) :
 Goes X (.ops r false (⟨some d, .makeSlice t L C, ty, pos, aft, none⟩ :: os) :: st) l segs.flatten h0 := g_mslice hn hL hC hu hk hb hz hs hc kk
theorem gs_store {t T : TypeId} {a x : Operand} {b off k : Nat} {v : Value} {cs vs cs' : List Value} (ha : OP l true a (.pointer (some ⟨b, off, none⟩))) (hx : OP l true x v)
 (hz : sz X.E.P t = some k) (hv : Nat.beq v.cells.size k = true) (hc : v.cells.toList = vs) (hl : Nat.ble (off + vs.length) cs.length = true) (hk : vs.all cellOk = true)
 (hcs : splice cs off vs = cs') {segs' : List (List Blk)} (hg : SetSeg [⟨b, .cells cs T⟩] [⟨b, .cells cs' T⟩] segs segs') (kk : Goes X (.ops r false os :: st) l segs'.flatten h0) :
 Goes X (.ops r false (⟨none, .store t a x, ty, pos, aft, none⟩ :: os) :: st) l segs.flatten h0 := by
 obtain ⟨pre, post, rfl, rfl⟩ := hg.pp
 subst hcs
 exact go_perm (pf _ _ _) (g_store 0 (own' := ⟨b, .cells (splice cs off vs) T⟩ :: (pre ++ post).flatten) ha hx rfl hz hv hc hl hk rfl (go_perm (pf pre post [⟨b, .cells (splice cs off vs) T⟩]).symm kk))
theorem gs_pub {b : Nat} {o : O} {segs' : List (List Blk)} (hg : DelSeg [⟨b, o⟩] segs segs') (k : ∀ h1, HExt h0 h1 → Wf h1 → h1.get b = some o → Goes X st l segs'.flatten h1) : Goes X st l segs.flatten h0 := by
 obtain ⟨pre, post, rfl, rfl⟩ := hg.pp
 exact go_perm (pf _ _ _) (go_pub 0 rfl (fun h1 e w hb => k h1 e w hb))
theorem gs_sub {segs' : List (List Blk)} (s : segs'.Sublist segs) (k : Goes X st l segs'.flatten h0) : Goes X st l segs.flatten h0 := go_sub (sub_flat s) k
theorem go_seg0 (k : Goes X st l ([] : List (List Blk)).flatten h0) : Goes X st l [] h0 := k
theorem gs_front {s : List Blk} {segs' : List (List Blk)} (hg : DelSeg s segs segs') (k : Goes X st l (s :: segs').flatten h0) : Goes X st l segs.flatten h0 := by
 obtain ⟨pre, post, rfl, rfl⟩ := hg.pp
 exact go_perm (pf _ _ _) k
theorem gs_perm {segs' : List (List Blk)} (s : segs.Perm segs') (k : Goes X st l segs'.flatten h0) : Goes X st l segs.flatten h0 := go_perm s.flatten k
theorem gs_app {α : Type} {R : Rep α} {tl : List Blk} {xs ys : List α} {args : Array Operand} {ts : Array TypeId} {sT elem k bytes n : Nat} {v xv z : Value} {rows2 : List (List Value)}
 (hn : Nat.blt d X.nt = true) (hx : OPs l true args.toList [v, xv]) (ht : ts[0]? = some sT) (hu : X.E.P.underlying sT = some (.slice elem)) (hk : sz X.E.P elem = some k) (hkR : k = R.k) (hk0 : 0 < k)
 (hby : bytesOf X.E.P elem = some bytes) (hz : zeroOf X.E.P elem = some z) (hzz : Nat.beq z.cells.size k = true) (hzs : zerosV X.E.P ts = some false)
 (hlen : lenOfV xv = some n) (hnl : n = ys.length) (hfirst : ∀ h' hf, Has (tl :: segs).flatten h0 h' hf → firstV h' k n xv = some rows2.flatten) (hr2 : Rws R h0 rows2 ys)
 (acc : AccR R elem h0 tl v xs) (hr : roomy (xs.length + ys.length) bytes = true)
 (kk0 : ∀ p tl', AccR R elem h0 tl' (.slice p (xs ++ ys).length (xs ++ ys).length) (xs ++ ys) → Goes X (.ops r false os :: st) ((d, true, .slice p (xs ++ ys).length (xs ++ ys).length) :: l) (tl' :: segs).flatten h0) :
 Goes X (.ops r false (⟨some d, .call ⟨.builtin .append, args, ts⟩, ty, pos, aft, none⟩ :: os) :: st) l (tl :: segs).flatten h0 :=
 g_app [] segs.flatten hn hx ht hu hk hkR hk0 hby hz hzz hzs hlen hnl hfirst hr2 acc hr rfl (fun p tl' a => kk0 p tl' a)
theorem gs_accpub {α : Type} {R : Rep α} {elem : TypeId} {tl : List Blk} {p : Option Addr} {xs : List α} {segs' : List (List Blk)} (hg : DelSeg tl segs segs') (acc : AccR R elem h0 tl (.slice p xs.length xs.length) xs)
 (kk : ∀ h1, HExt h0 h1 → Wf h1 → RL R h1 p xs.length xs → Goes X st l segs'.flatten h1) (hT : elem = R.T) : Goes X st l segs.flatten h0 := by
 obtain ⟨pre, post, rfl, rfl⟩ := hg.pp
 have e : (pre ++ tl :: post).flatten = pre.flatten ++ (tl ++ post.flatten) := by rw [List.flatten_append, List.flatten_cons]
 exact acc_pub pre.flatten post.flatten acc e (fun h1 e w hv => by rw [← List.flatten_append]; exact kk h1 e w hv) hT
end
theorem nd0 : ∀ e ∈ ([] : List (List Blk)).flatten, e.o ≠ .dead := fun _ h => by cases h
theorem ndb {b : Nat} {o : O} {r : List (List Blk)} (ho : o ≠ .dead) (k : ∀ e ∈ r.flatten, e.o ≠ .dead) : ∀ e ∈ ([⟨b, o⟩] :: r : List (List Blk)).flatten, e.o ≠ .dead := by
 intro e he
 rw [List.flatten_cons] at he
 rcases List.mem_append.mp he with h | h
 ·
  rw [List.mem_singleton.mp h]; exact ho
 ·
  exact k e h
theorem nde {r : List (List Blk)} (k : ∀ e ∈ r.flatten, e.o ≠ .dead) : ∀ e ∈ ([] :: r : List (List Blk)).flatten, e.o ≠ .dead := by
 intro e he
 rw [List.flatten_cons] at he
 rcases List.mem_append.mp he with h | h
 ·
  cases h
 ·
  exact k e h
theorem ndt {α : Type} {R : Rep α} {elem : TypeId} {h : Heap} {tl : List Blk} {v : Value} {xs : List α} {r : List (List Blk)} (a : AccR R elem h tl v xs) (k : ∀ e ∈ r.flatten, e.o ≠ .dead) : ∀ e ∈ (tl :: r : List (List Blk)).flatten, e.o ≠ .dead := by
 intro e he
 rw [List.flatten_cons] at he
 rcases List.mem_append.mp he with h | h
 ·
  obtain ⟨_, ⟨_, _, h3⟩ | ⟨b, rows, _, h3, _⟩⟩ := a
  ·
   subst h3; cases h
  ·
   subst h3; rw [List.mem_singleton.mp h]; intro q; cases q
 ·
  exact k e h
inductive Takes : List (List Blk) → List (List Blk) → List (List Blk) → Prop
 | nil {r : List (List Blk)} : Takes [] r r
 | cons {s : List Blk} {F r r' r'' : List (List Blk)} (h : DelSeg s r r') (k : Takes F r' r'') : Takes (s :: F) r r''
 | emp {F r r'' : List (List Blk)} (k : Takes F r r'') : Takes ([] :: F) r r''
theorem Takes.perm {F r r' : List (List Blk)} (h : Takes F r r') : r.flatten.Perm (F ++ r').flatten := by
 induction h with
 | nil => exact List.Perm.refl _
 | cons h k ih =>
  obtain ⟨pre, post, rfl, rfl⟩ := h.pp
  refine (pf _ _ _).trans ?_
  rw [List.cons_append, List.flatten_cons]
  exact ih.append_left _
 | emp k ih => rw [List.cons_append, List.flatten_cons, List.nil_append]; exact ih
def EvO (E : Env) (f : FuncId) (args : List Value) (segs : List (List Blk)) (h0 : Heap) (Q : Value → List (List Blk) → Heap → Prop) : Prop :=
 ∀ h hf, Has segs.flatten h0 h hf → ∃ n v h' segs' h1 hf', run E n f args h = some (v, h') ∧ HExt h0 h1 ∧ Wf h1 ∧ Has segs'.flatten h1 h' hf' ∧ (∀ e ∈ segs'.flatten, e.o ≠ .dead) ∧ Q v segs' h1
theorem evo_of {E : Env} {f : FuncId} {args : List Value} {segs : List (List Blk)} {h0 : Heap} {Q : Value → List (List Blk) → Heap → Prop} {fn : Func} {c : Code} (hp : E.prim f = none) (hf : E.P.funcs[f]? = some fn) (hc : fn.body = some c) (hn : Nat.ble args.length fn.ntmps = true)
 (g : Goes ⟨E, fn.ntmps, fn.results.toList, fun v h' => ∃ segs' h1 hf', HExt h0 h1 ∧ Wf h1 ∧ Has segs'.flatten h1 h' hf' ∧ (∀ e ∈ segs'.flatten, e.o ≠ .dead) ∧ Q v segs' h1⟩ [.code c] (initL args 0 []) segs.flatten h0) : EvO E f args segs h0 Q := by
 intro h hf0 hs
 obtain ⟨n, fr', h', vs, e1, e2, e3⟩ := g (initF args 0 .nil) h hf0 (initL_agree _ _ _ _ (Agree.nil _)) hs
 obtain ⟨segs', h1, hf', q1, q2, q3, q4, q5⟩ := e3
 refine ⟨n + 1, packV vs, h', segs', h1, hf', ?_, q1, q2, q3, q4, q5⟩
 rw [run_step hp hf hc, hn, cond_true]
 unfold exec at e1
 split at e1
 ·
  rename_i x fr1 h2 e
  have e' : evalC E fn.ntmps (run E n) n c (initF args 0 .nil) h = some (x, fr1, h2) := e
  rw [e']
  cases x with
  | exit i => cases e1
  | normal => cases e1; dsimp only; rw [e2]
  | ret => cases e1; dsimp only; rw [e2]
 ·
  cases e1
theorem Has.split {h0 h : Heap} : ∀ (F rest : List Blk) (hf : Heap), Has (F ++ rest) h0 h hf → ∃ hm, Has rest h0 h hm ∧ Has F h0 hm hf := by
 intro F
 induction F with
 | nil => intro rest hf m; exact ⟨hf, m, ⟨m.ext, m.wf, ⟨rfl, rfl, rfl, fun _ e => (by cases e), fun _ _ => rfl, fun _ e => (by cases e)⟩, fun _ e => (by cases e), List.nodup_nil⟩⟩
 | cons e F ih =>
  intro rest hf m
  have hb : inOwn (e :: (F ++ rest)) e.b = true := inOwn_iff.mpr ⟨_, List.mem_cons_self, rfl⟩
  have hd := m.msk.dead _ hb
  have hlt := m.msk.lt _ hb
  have hlim : hf.lim ≤ e.b := by have := (m.blk e List.mem_cons_self).2; rw [m.msk.lim] at this; exact this
  obtain ⟨hm, h1, h2⟩ := ih rest (hf.set e.b e.o) (Has.pubH (b := e.b) (o := e.o) m)
  have nF : ∀ x, inOwn F x = true → e.b ≠ x := by
   intro x hx q
   subst q
   obtain ⟨y, hy, hyb⟩ := inOwn_iff.mp hx
   have nd := m.nd
   rw [List.cons_append, List.map_cons, List.nodup_cons] at nd
   exact nd.1 (by rw [← hyb]; exact List.mem_map_of_mem (List.mem_append_left _ hy))
  have ge : hm.get e.b = some e.o := by
   have : inOwn F e.b = false := by
    cases q : inOwn F e.b with
    | false => rfl
    | true => exact absurd rfl (nF _ q)
   rw [h2.msk.get _ this, get_set, if_pos rfl]
  refine ⟨hm, h1, ⟨m.ext, m.wf, ⟨h2.msk.base, h2.msk.lim, h2.msk.n, ?_, ?_, ?_⟩, ?_, ?_⟩⟩
  ·
   intro b hb'
   rw [Has.io_cons, Bool.or_eq_true] at hb'
   rcases hb' with q | q
   ·
    have := Nat.eq_of_beq_eq_true q; subst this; exact hd
   ·
    have := h2.msk.dead b q; rw [get_set, if_neg (nF b q)] at this; exact this
  ·
   intro b hb'
   rw [Has.io_cons, Bool.or_eq_false_iff] at hb'
   have : ¬ e.b = b := by intro q; subst q; have := hb'.1; rw [Nat.beq_refl] at this; cases this
   rw [h2.msk.get b hb'.2, get_set, if_neg this]
  ·
   intro b hb'
   rw [Has.io_cons, Bool.or_eq_true] at hb'
   rcases hb' with q | q
   ·
    have := Nat.eq_of_beq_eq_true q; subst this; exact hlt
   ·
    exact h2.msk.lt b q
  ·
   intro x hx
   rcases List.mem_cons.mp hx with q | q
   ·
    subst q; exact ⟨ge, by rw [h2.msk.lim]; exact hlim⟩
   ·
    exact h2.blk x q
  ·
   have nd := m.nd
   rw [List.cons_append, List.map_cons, List.nodup_cons, List.map_append] at nd
   rw [List.map_cons, List.nodup_cons]
   exact ⟨fun hm' => nd.1 (List.mem_append_left _ hm'), (List.nodup_append.mp nd.2).1⟩
theorem Has.join {h0 h1 h h' h2 hf hf' hm : Heap} {F' rest : List Blk} (m : Has rest h0 h hm) (e01 : h1.lim = h0.lim) (hs : Has F' h1 h' hf') (nd : ∀ e ∈ F', e.o ≠ .dead) (mk : Msk (inOwn rest) h' h2) (kp : Kept (inOwn rest) h h2) :
 Has (F' ++ rest) h1 h2 hf' := by
 have io : ∀ b, inOwn (F' ++ rest) b = (inOwn F' b || inOwn rest b) := fun b => by unfold inOwn; rw [List.any_append]
 have dis : ∀ e ∈ F', inOwn rest e.b = false := by
  intro e he
  cases q : inOwn rest e.b with
  | false => rfl
  | true =>
   have h1 := (hs.blk e he).1
   rw [mk.dead _ q] at h1
   exact absurd (Option.some.inj h1).symm (nd e he)
 have hl : h2.lim = h.lim := by
  rw [mk.lim, hs.msk.lim, hs.ext.lim, e01, ← m.ext.lim, m.msk.lim]
 refine ⟨hs.ext, hs.wf, ⟨mk.base.trans hs.msk.base, mk.lim.trans hs.msk.lim, mk.n.trans hs.msk.n, ?_, ?_, ?_⟩, ?_, ?_⟩
 ·
  intro b hb
  rw [io, Bool.or_eq_true] at hb
  cases q : inOwn F' b with
  | true => exact hs.msk.dead b q
  | false =>
   rcases hb with r | r
   ·
    rw [q] at r; cases r
   ·
    rw [← hs.msk.get b q]; exact mk.dead b r
 ·
  intro b hb
  rw [io, Bool.or_eq_false_iff] at hb
  rw [mk.get b hb.2, hs.msk.get b hb.1]
 ·
  intro b hb
  rw [io, Bool.or_eq_true] at hb
  rcases hb with r | r
  ·
   exact hs.msk.lt b r
  ·
   have := mk.lt b r; rw [hs.msk.n] at this; exact this
 ·
  intro e he
  rcases List.mem_append.mp he with r | r
  ·
   have h1 := hs.blk e r
   exact ⟨by rw [mk.get _ (dis e r)]; exact h1.1, by rw [mk.lim]; exact h1.2⟩
  ·
   have h1 := m.blk e r
   exact ⟨by rw [kp _ (inOwn_iff.mpr ⟨e, r, rfl⟩)]; exact h1.1, by rw [hl]; exact h1.2⟩
 ·
  rw [List.map_append, List.nodup_append]
  refine ⟨hs.nd, m.nd, fun a ha b hb q => ?_⟩
  subst q
  obtain ⟨x, hx, rfl⟩ := List.mem_map.mp ha
  obtain ⟨y, hy, hyb⟩ := List.mem_map.mp hb
  have := dis x hx
  rw [inOwn_iff.mpr ⟨y, hy, hyb⟩] at this
  cases this
section
variable {X : Cx} {st : List It} {l : L} {h0 : Heap} {segs F rest : List (List Blk)}
variable {r : Array Oper} {os : List Oper} {ty : TypeId} {pos : String} {aft : Array Edge}
theorem gs_call {dst : Option Nat} {f : Operand} {xs : Array Operand} {ts : Array TypeId} {gf : FuncId} {fi ca : Array Value} {vs : List Value} {Q : Value → List (List Blk) → Heap → Prop}
 (hF : FramedE X.E) (hw0 : Wf h0) (hp : Takes F segs rest) (hn : ∀ d, dst = some d → Nat.blt d X.nt = true) (hf' : OP l true f (.func (.func gf) fi ca)) (hx : OPs l true xs.toList vs) (hb : hasBody X.E.P gf = true)
 (hs : EvO X.E gf (fi.toList ++ (vs ++ ca.toList)) F h0 Q)
 (kk : ∀ v F' h1, HExt h0 h1 → Wf h1 → Q v F' h1 → Goes X (.ops r false os :: st) (match dst with | some d => (d, true, v) :: l | none => l) (F' ++ rest).flatten h1) :
 Goes X (.ops r false (⟨dst, .call ⟨.value f, xs, ts⟩, ty, pos, aft, none⟩ :: os) :: st) l segs.flatten h0 := by
 refine go_perm hp.perm ?_
 intro fr h hf ag hs'
 rw [List.flatten_append] at hs'
 obtain ⟨hm, m1, m2⟩ := Has.split _ _ _ hs'
 obtain ⟨n, v, h', F', h1, hf2, hr, e1, w1, m3, nd, hq⟩ := hs hm hf m2
 obtain ⟨h2, hr2, mk, kp⟩ := run_msk hF n (inOwn rest.flatten) hm h gf _ v h' m1.msk hr
 have ho : opV X.E (run X.E n) fr h (.call ⟨.value f, xs, ts⟩) = some (v, h2) := by
  simp only [opV, readV, writeV, calleeV, hf' fr ag rfl, hx fr ag rfl, hb, cond_true]
  exact hr2
 have hh := Has.join (hf := hf) m1 e1.lim m3 nd mk kp
 rw [← List.flatten_append] at hh
 cases dst with
 | none => exact step_op rfl ho rfl (kk v F' h1 e1 w1 hq _ _ _ ag hh)
 | some d => exact step_op rfl ho (put_some (hn d rfl) _ _) (kk v F' h1 e1 w1 hq _ _ _ (ag.set d true v) hh)
theorem perm_of {α : Type} {d : α} (segs : List α) (p : List Nat) (hp : p.isPerm (List.range segs.length) = true) : segs.Perm (p.map fun i => segs.getD i d) := by
 have h := (List.isPerm_iff.mp hp).map (fun i => segs.getD i d)
 have e : (List.range segs.length).map (fun i => segs.getD i d) = segs := by
  apply List.ext_getElem
  ·
   simp
  ·
   intro i h1 h2; simp [List.getD, h2]
 rw [e] at h
 exact h.symm
end
theorem flat_splice {k : Nat} {q : List Value} (hq : q.length = k) : ∀ (rows : List (List Value)) (i : Nat), (∀ r ∈ rows, r.length = k) → i < rows.length → splice rows.flatten (i * k) q = (rows.set i q).flatten := by
 intro rows
 induction rows with
 | nil => intro i _ hi; simp at hi
 | cons x rows ih =>
  intro i hr hi
  have hx := hr x List.mem_cons_self
  cases i with
  | zero =>
   unfold splice
   rw [Nat.zero_mul, List.take_zero, List.nil_append, Nat.zero_add, List.set_cons_zero, List.flatten_cons, List.flatten_cons, hq, ← hx, List.drop_left']
   rfl
  | succ i =>
   have h1 := ih i (fun y hy => hr y (List.mem_cons_of_mem _ hy)) (by simpa using hi)
   unfold splice at h1 ⊢
   rw [List.set_cons_succ, List.flatten_cons, List.flatten_cons, ← h1, Nat.succ_mul, Nat.add_comm (i * k) k, ← hx, List.take_append, List.take_of_length_le (by omega), Nat.add_sub_cancel_left, List.append_assoc, Nat.add_assoc, List.drop_append, List.drop_eq_nil_of_le (by omega), List.nil_append,
    show x.length + (i * x.length + q.length) - x.length = i * x.length + q.length by omega]
theorem Rws.set {α : Type} {R : Rep α} {h : Heap} {rows : List (List Value)} {xs : List α} (s : Rws R h rows xs) {q : List Value} {x : α} (c : R.C h q x) (i : Nat) : Rws R h (rows.set i q) (xs.set i x) := by
 refine ⟨by rw [List.length_set, List.length_set, s.len], fun j row y hr hy => ?_⟩
 rw [List.getElem?_set] at hr hy
 split at hr
 ·
  rename_i e
  subst e
  rw [if_pos rfl] at hy
  split at hr
  ·
   split at hy
   ·
    cases hr; cases hy; exact c
   ·
    cases hy
  ·
   cases hr
 ·
  rename_i e
  rw [if_neg e] at hy
  exact s.C j row y hr hy
def setI {α : Type} (xs : List α) (i : Int) (x : α) : List α := xs.set i.toNat x
section
variable {X : Cx} {st : List It} {l : L} {h0 : Heap} {segs : List (List Blk)}
variable {r : Array Oper} {q : Bool} {os : List Oper} {d : Nat} {ty : TypeId} {pos : String} {aft : Array Edge}
theorem AccR.open {α : Type} {R : Rep α} {elem : TypeId} {h : Heap} {tl : List Blk} {p : Option Addr} {xs : List α} (a : AccR R elem h tl (.slice p xs.length xs.length) xs) {i : Int} {x : α} (hx : getI xs i = some x) :
 ∃ b rows row, p = some ⟨b, 0, some 0⟩ ∧ tl = [⟨b, .cells rows.flatten elem⟩] ∧ Rws R h rows xs ∧ rows[i.toNat]? = some row ∧ R.C h row x ∧ 0 ≤ i ∧ i < (xs.length : Int) ∧ row.length = R.k ∧ (rows.flatten.drop (i.toNat * R.k)).take R.k = row ∧ i.toNat * R.k + R.k ≤ rows.flatten.length := by
 obtain ⟨j, rfl, hj, hl⟩ := getI_some hx
 obtain ⟨hxl, ⟨h1, _, h3⟩ | ⟨b, rows, h1, h2, h3⟩⟩ := a
 ·
  subst h1; simp at hl
 ·
  have hp : p = some ⟨b, 0, some 0⟩ := by simpa using h1
  have hr : j < rows.length := by rw [h3.len]; exact hl
  have hrow := List.getElem?_eq_getElem hr
  obtain ⟨g1, g2⟩ := flat_at rows j h3.k hrow
  exact ⟨b, rows, rows[j], hp, h2, h3, hrow, h3.C j _ x hrow hj, by omega, by omega, h3.k _ (List.getElem_mem hr), g2, g1⟩
theorem ia_acc {E : Env} {t e k : Nat} {ik : IntKind} {b n c : Nat} {i : Int} (hu : E.P.underlying t = some (.slice e)) (hz : sz E.P e = some k) (h0 : 0 ≤ i) (hi : i < (n : Int)) :
 indexAddrV E t (.slice (some ⟨b, 0, some 0⟩) n c) (.int ik i) = some (.pointer (some ⟨b, i.toNat * k, none⟩)) := by
 unfold indexAddrV
 dsimp only
 rw [hu]
 dsimp only
 rw [if_pos ⟨h0, hi⟩, hz]
 simp only [elemAddr, Nat.zero_add]
theorem AccR.put {α : Type} {R : Rep α} {elem : TypeId} {h : Heap} {b : Nat} {rows : List (List Value)} {xs : List α} {i : Int} {x : α} {row : List Value} (hl : xs.length < 9223372036854775808) (s : Rws R h rows xs) (hi0 : 0 ≤ i) (hi : i < (xs.length : Int)) (c : R.C h row x) :
 AccR R elem h [⟨b, .cells (splice rows.flatten (i.toNat * R.k) row) elem⟩] (.slice (some ⟨b, 0, some 0⟩) (setI xs i x).length (setI xs i x).length) (setI xs i x) := by
 have hr : i.toNat < rows.length := by rw [s.len]; omega
 refine ⟨by unfold setI; rw [List.length_set]; exact hl, .inr ⟨b, rows.set i.toNat row, rfl, ?_, s.set c i.toNat⟩⟩
 rw [flat_splice (R.len c) rows i.toNat s.k hr]
end
set_option linter.unusedSectionVars false
section
variable {α : Type} [Inhabited α]
structure Cell (enc : α → Value) (dec : Value → Option α) : Prop where
 one : ∀ x, cellOk (enc x) = true
 pl : ∀ x, plainN 4 (enc x) = true
 dec : ∀ v x, dec v = some x → v = enc x
end
set_option linter.unusedSectionVars false
theorem run_prim {E : Env} {g : FuncId} {p : List Value → Heap → Option (Value × Heap)} (hp : E.prim g = some p) (n : Nat) (args : List Value) (h : Heap) : run E (n + 1) g args h = p args h := by
 simp only [run, hp]
theorem known_evp {E : Env} {g : FuncId} {v : Value} (hp : E.prim g = some (known v)) (h : Heap) (hw : Wf h) : Ev E g [] h (fun w _ => w = v) :=
 ⟨1, v, h, by rw [run_prim hp]; rfl, HExt.refl h, rfl⟩
theorem AccR.rl {α : Type} {R : Rep α} {elem : TypeId} {h : Heap} {b : Nat} {rows : List (List Value)} {xs : List α} (hl : xs.length < 9223372036854775808) (hT : elem = R.T) (hb : h.get b = some (.cells rows.flatten elem)) (s : Rws R h rows xs) :
 RL R h (some ⟨b, 0, some 0⟩) xs.length xs := RL.of_blk (.inr rfl) hb rfl s hl (Nat.le_refl _) hT
section
variable {X : Cx} {st : List It} {l : L} {h0 : Heap} {segs : List (List Blk)}
variable {r : Array Oper} {os : List Oper} {d : Nat} {ty : TypeId} {pos : String} {aft : Array Edge}
end
section
variable {α β : Type} [Inhabited α] {enc : α → Value} {dec : Value → Option α} {enc' : β → Value} {conv : β → α} {back : α → β}
end
section
variable {X : Cx} {st : List It} {l : L} {own : List Blk} {h0 : Heap}
variable {r : Array Oper} {os : List Oper} {d : Nat} {ty : TypeId} {pos : String} {aft : Array Edge}
end
theorem setI_len {α : Type} (xs : List α) (i : Int) (x : α) : (setI xs i x).length = xs.length := by unfold setI; exact List.length_set
theorem acc_cell {cs row : List Value} {o k j : Nat} {v : Value} (h : (cs.drop o).take k = row) (hv : row[j]? = some v) : cs[o + j]? = some v := by
 rw [← h, List.getElem?_take] at hv
 split at hv
 ·
  rw [List.getElem?_drop] at hv; exact hv
 ·
  cases hv
theorem acc_ble {n o k j m : Nat} (h : o + k ≤ n) (hm : j + m ≤ k) : Nat.ble (o + j + m) n = true := Nat.ble_eq_true_of_le (by omega)
theorem flat_splice_part {k : Nat} {vs row : List Value} {j : Nat} : ∀ (rows : List (List Value)) (i : Nat), (∀ r ∈ rows, r.length = k) → rows[i]? = some row → j + vs.length ≤ k → splice rows.flatten (i * k + j) vs = (rows.set i (splice row j vs)).flatten := by
 intro rows
 induction rows with
 | nil => intro i _ hi; simp at hi
 | cons x rows ih =>
  intro i hr hi hj
  have hx := hr x List.mem_cons_self
  cases i with
  | zero =>
   have : x = row := by simpa using hi
   subst this
   unfold splice
   rw [Nat.zero_mul, Nat.zero_add, List.set_cons_zero, List.flatten_cons, List.flatten_cons, List.take_append_of_le_length (by omega), List.drop_append_of_le_length (by omega)]
   simp only [List.append_assoc]
  | succ i =>
   have h1 := ih i (fun y hy => hr y (List.mem_cons_of_mem _ hy)) (by simpa using hi) hj
   unfold splice at h1 ⊢
   rw [List.set_cons_succ, List.flatten_cons, List.flatten_cons]
   rw [show (rows.set i (row.take j ++ (vs ++ row.drop (j + vs.length)))).flatten = _ from h1.symm]
   rw [Nat.succ_mul, show i * k + k + j = x.length + (i * k + j) by omega, List.take_length_add_append, show x.length + (i * k + j) + vs.length = x.length + (i * k + j + vs.length) by omega, List.drop_length_add_append, List.append_assoc]
theorem AccR.set_ {α : Type} {R : Rep α} {elem : TypeId} {h : Heap} {b n : Nat} {rows : List (List Value)} {xs : List α} {i : Int} {x : α} {row : List Value} (hl : xs.length < 9223372036854775808) (s : Rws R h rows xs) (hn : n = i.toNat) (c : R.C h row x) :
 AccR R elem h [⟨b, .cells (rows.set n row).flatten elem⟩] (.slice (some ⟨b, 0, some 0⟩) (setI xs i x).length (setI xs i x).length) (setI xs i x) := by
 subst hn
 exact ⟨by rw [setI_len]; exact hl, .inr ⟨b, rows.set i.toNat row, rfl, rfl, s.set c i.toNat⟩⟩
theorem flat_at_set {k i : Nat} {row' : List Value} {rows : List (List Value)} (hr : ∀ r ∈ rows, r.length = k) (hi : i < rows.length) (hl : row'.length = k) :
 ((rows.set i row').flatten.drop (i * k)).take k = row' ∧ i * k + k ≤ (rows.set i row').flatten.length := by
 have h1 : ∀ r ∈ rows.set i row', r.length = k := by
  intro r hm
  rcases List.mem_or_eq_of_mem_set hm with q | q
  ·
   exact hr r q
  ·
   subst q; exact hl
 obtain ⟨g1, g2⟩ := flat_at (rows.set i row') i h1 (by rw [List.getElem?_set_self hi])
 exact ⟨g2, g1⟩
section
variable {X : Cx} {st : List It} {l : L} {h0 : Heap} {segs : List (List Blk)}
theorem gs_retell {segs' : List (List Blk)} (e : segs = segs') (k : Goes X st l segs'.flatten h0) : Goes X st l segs.flatten h0 := by subst e; exact k
end
theorem AccR.at_ {α : Type} {R : Rep α} {elem : TypeId} {h : Heap} {tl : List Blk} {p : Option Addr} {xs : List α} (a : AccR R elem h tl (.slice p xs.length xs.length) xs) {i : Int} {x : α} (hx : getI xs i = some x) :
 ∃ b rows row, p = some ⟨b, 0, some 0⟩ ∧ tl = [⟨b, .cells rows.flatten elem⟩] ∧ Rws R h rows xs ∧ rows[i.toNat]? = some row ∧ R.C h row x ∧ 0 ≤ i ∧ i < (xs.length : Int) ∧ (rows.flatten.drop (i.toNat * R.k)).take R.k = row ∧ i.toNat * R.k + R.k ≤ rows.flatten.length ∧ xs.length < 9223372036854775808 := by
 obtain ⟨b, rows, row, h1, h2, h3, h4, h5, h6, h7, _, h8, h9⟩ := a.open hx
 exact ⟨b, rows, row, h1, h2, h3, h4, h5, h6, h7, h8, h9, a.1⟩
def insC (k i : Nat) (cs vr : List Value) : List Value := cs.take (i * k) ++ (vr ++ cs.drop (i * k))
structure InsOk (k bytes : Nat) (elem : TypeId) (lim b vb n c : Nat) (i : Int) (cs vr : List Value) (T : TypeId) : Prop where
 limb : lim ≤ b
 Te : T = elem
 csl : cs.length = n * k
 ce : c = n
 vrl : vr.length = k
 csp : cs.all (plainN 4) = true
 vrp : vr.all (plainN 4) = true
 ne : b ≠ vb
 i0 : 0 ≤ i
 i1 : i < (n : Int)
 room : roomy (n + 1) bytes = true
 k0 : 0 < k
 cso : cs.all cellOk = true
 vro : vr.all cellOk = true
structure InsRun (k bytes : Nat) (elem : TypeId) (E : Env) (g : FuncId) : Prop where
 size : sz E.P elem = some k
 A : ∀ (b vb n i : Nat) (cs vr : List Value) (Tv : TypeId) (h : Heap), Wf h → h.get b = some (.cells cs elem) → h.get vb = some (.cells vr Tv) → cs.length = n * k → vr.length = k → i < n → roomy (n + 1) bytes = true → 0 < k → cs.all cellOk = true → vr.all cellOk = true →
  EvO E g [.slice (some ⟨b, 0, none⟩) n n, .int .i64 i, .slice (some ⟨vb, 0, none⟩) 1 1] [] h (fun v S h1 => ∃ b2, v = .slice (some ⟨b2, 0, some 0⟩) (n + 1) (n + 1) ∧ S = [[⟨b2, .cells (insC k i cs vr) elem⟩]])
 B : ∀ (B s n c i VB vs : Nat) (C VC : Array Value) (T VT : TypeId) (fr vfr : Nat × Nat) (cs vr : List Value) (w : World), w.heap[B]? = some (.cells C T fr) → Unfrozen C.size fr → s + c * k ≤ C.size → cs.length = n * k → (∀ (j : Nat) (v : Value), cs[j]? = some v → C[s + j]? = some v) →
  w.heap[VB]? = some (.cells VC VT vfr) → Unfrozen VC.size vfr → vs + k ≤ VC.size → vr.length = k → (∀ (j : Nat) (v : Value), vr[j]? = some v → VC[vs + j]? = some v) → VB ≠ B → i < n → n + 1 ≤ c → n + 1 < 9223372036854775808 → (∀ v ∈ cs, v.oneCell' = true) → (∀ v ∈ vr, v.oneCell' = true) →
  Calls E.P g #[.slice (some ⟨B, s, none⟩) n c, .int .i64 i, .slice (some ⟨VB, vs, none⟩) 1 1] w (fun e w' => e = .returned (.slice (some ⟨B, s, none⟩) (n + 1) c) ∧
   ∃ (C' : Array Value) (d : Nat), w' = { w with drawn := d, heap := w.heap.setIfInBounds B (.cells C' T fr) } ∧ C'.toList = splice (splice C.toList (s + (i + 1) * k) (cs.drop (i * k))) (s + i * k) vr)
section
variable {X : Cx} {st : List It} {l : L} {own rest : List Blk} {h0 : Heap}
variable {r : Array Oper} {os : List Oper} {d : Option Nat} {ty : TypeId} {pos : String} {aft : Array Edge}
end
section
variable {X : Cx} {st : List It} {l : L} {own rest : List Blk} {h0 : Heap}
variable {r : Array Oper} {os : List Oper} {d : Option Nat} {ty : TypeId} {pos : String} {aft : Array Edge}
end
namespace Rws
variable {α : Type} {R : Rep α} {h : Heap} {rows : List (List Value)} {xs : List α}
theorem take (s : Rws R h rows xs) (n : Nat) : Rws R h (rows.take n) (xs.take n) := by
 refine ⟨by rw [List.length_take, List.length_take, s.len], fun i row x hr hx => ?_⟩
 rw [List.getElem?_take] at hr hx
 split at hr
 ·
  rename_i q; rw [if_pos q] at hx; exact s.C i row x hr hx
 ·
  cases hr
theorem drop (s : Rws R h rows xs) (n : Nat) : Rws R h (rows.drop n) (xs.drop n) := by
 refine ⟨by rw [List.length_drop, List.length_drop, s.len], fun i row x hr hx => ?_⟩
 rw [List.getElem?_drop] at hr hx
 exact s.C _ row x hr hx
theorem plain (s : Rws R h rows xs) (hpl : ∀ h row x, R.C h row x → row.all (plainN 4) = true) : rows.flatten.all (plainN 4) = true := by
 rw [List.all_eq_true]
 intro v hv
 obtain ⟨row, hr, hv⟩ := List.mem_flatten.mp hv
 obtain ⟨x, hx⟩ := s.at_ hr
 exact List.all_eq_true.mp (hpl _ _ _ hx) v hv
end Rws
section
variable {E : Env} {l : L} {own : List Blk} {h0 : Heap}
end
def lpK2 {α β γ : Type} (x : Lp α β) (k : α → Option (Lp γ β)) : Option (Lp γ β) := match x with | .go s => k s | .out r => some (.out r)
def remI (a b : Int) : Option Int := if b = 0 then none else some (a.tmod b)
theorem remI_bin {E : Env} {t : TypeId} {k : IntKind} {a b c : Int} (h : remI a b = some c) : binV E .rem t (.int k a) (.int k b) = some (.int k c) := by
 unfold remI at h
 split at h
 ·
  cases h
 ·
  rename_i q
  cases h
  simp only [binV, intBin, if_neg q, if_true]
theorem lpgo {α β : Type} {s : α} {k : α → Option β} {r : β} (h : lpK (.go s) k = some r) : k s = some r := h
theorem lpgo2 {α β γ : Type} {s : α} {k : α → Option (Lp γ β)} {r : Lp γ β} (h : lpK2 (.go s) k = some r) : k s = some r := h
section
variable {X : Cx} {st : List It} {l : L} {segs : List (List Blk)} {h0 : Heap}
variable {r : Array Oper} {os : List Oper} {ty ty2 : TypeId} {pos pos2 : String} {aft aft2 : Array Edge}
end
@[simp] theorem ba_iff {a b : ByteArray} : (a == b) = true ↔ a = b := Go.MapKept.bytes_beq a b
@[simp] theorem ba_self (a : ByteArray) : (a == a) = true := (Go.MapKept.bytes_beq a a).mpr rfl
theorem roomy_le {n b : Nat} (hn : n ≤ 1000000000) (hb : b ≤ 1000) (h0 : 0 < b) : roomy n b = true := by
 unfold roomy
 rw [Bool.and_eq_true]
 refine ⟨Nat.ble_eq_true_of_le ?_, ?_⟩
 ·
  exact Nat.le_trans (Nat.mul_le_mul (by omega : n + n / 4 + 1024 ≤ 2000001024) hb) (by decide)
 ·
  simp only [Nat.blt, Nat.ble_eq]; omega
theorem bl_irrefl : ∀ x : List UInt8, Op.bytesLess x x = false
 | [] => rfl
 | a :: x => by
  have h : ¬ a < a := UInt8.lt_irrefl a
  simp [Op.bytesLess, h, bl_irrefl x]
theorem bl_trans : ∀ x y z : List UInt8, Op.bytesLess x y = true → Op.bytesLess y z = true → Op.bytesLess x z = true
 | _, [], _, h, _ => by cases ‹List UInt8› <;> simp [Op.bytesLess] at h
 | _, b :: y, [], _, h => by simp [Op.bytesLess] at h
 | [], b :: y, c :: z, _, _ => rfl
 | a :: x, b :: y, c :: z, h1, h2 => by
  simp only [Op.bytesLess, Bool.or_eq_true, Bool.and_eq_true, decide_eq_true_eq, beq_iff_eq] at h1 h2 ⊢
  rcases h1 with h1 | ⟨e1, h1⟩
  ·
   rcases h2 with h2 | ⟨e2, h2⟩
   ·
    exact .inl (UInt8.lt_trans h1 h2)
   ·
    subst e2; exact .inl h1
  ·
   subst e1
   rcases h2 with h2 | ⟨e2, h2⟩
   ·
    exact .inl h2
   ·
    exact .inr ⟨e2, bl_trans x y z h1 h2⟩
theorem bl_total : ∀ x y : List UInt8, Op.bytesLess x y = false → Op.bytesLess y x = false → x = y
 | [], [], _, _ => rfl
 | [], b :: y, h, _ => by simp [Op.bytesLess] at h
 | a :: x, [], _, h => by simp [Op.bytesLess] at h
 | a :: x, b :: y, h1, h2 => by
  simp only [Op.bytesLess, Bool.or_eq_false_iff, Bool.and_eq_false_iff, decide_eq_false_iff_not, beq_eq_false_iff_ne] at h1 h2
  have e : a = b := by
   apply UInt8.toNat_inj.mp
   have q1 := h1.1; have q2 := h2.1
   rw [UInt8.lt_iff_toNat_lt] at q1 q2
   omega
  subst e
  have q1 := h1.2.resolve_left (fun h => h rfl)
  have q2 := h2.2.resolve_left (fun h => h rfl)
  rw [bl_total x y q1 q2]
theorem toList_inj {x y : ByteArray} (h : x.toList = y.toList) : x = y := by
 rw [ByteArray.toList_eq, ByteArray.toList_eq] at h
 cases x; cases y
 have := Array.toList_inj.mp h
 dsimp only at this
 subst this; rfl
theorem eqB_iff {x y : ByteArray} : eqB x y = true ↔ x = y := by
 unfold eqB
 rw [beq_iff_eq]
 exact ⟨toList_inj, fun h => by rw [h]⟩
theorem less_irrefl (x : ByteArray) : lessB x x = false := bl_irrefl _
theorem less_trans {x y z : ByteArray} (h1 : lessB x y = true) (h2 : lessB y z = true) : lessB x z = true := bl_trans _ _ _ h1 h2
theorem less_total {x y : ByteArray} (h1 : lessB x y = false) (h2 : lessB y x = false) : x = y := toList_inj (bl_total _ _ h1 h2)
theorem less_asymm {x y : ByteArray} (h : lessB x y = true) : lessB y x = false := by
 cases e : lessB y x
 ·
  rfl
 ·
  have := less_trans h e; rw [less_irrefl] at this; cases this
theorem appL_ok {α : Type} {B : Nat} {xs ys : List α} (hn : xs.length + ys.length ≤ 1000000000) (hb : B ≤ 1000) (h0 : 0 < B) : appL B xs ys = some (xs ++ ys) := by
 unfold appL; rw [if_pos (roomy_le hn hb h0)]
@[simp] theorem eqB_self (x : ByteArray) : eqB x x = true := eqB_iff.mpr rfl
theorem eqB_ne {x y : ByteArray} : eqB x y = false ↔ x ≠ y := by
 rw [Ne, ← eqB_iff]; cases eqB x y <;> simp
theorem leB_not (x y : ByteArray) : leB x y = !lessB y x := by
 unfold leB
 cases h : lessB x y with
 | true => simp [less_asymm h]
 | false =>
  cases e : eqB x y with
  | true => have := eqB_iff.mp e; subst this; simp [less_irrefl]
  | false =>
   cases h2 : lessB y x with
   | true => rfl
   | false => have := less_total h h2; subst this; simp at e
theorem leB_refl (x : ByteArray) : leB x x = true := by rw [leB_not, less_irrefl]; rfl
theorem leB_trans {x y z : ByteArray} (h1 : leB x y = true) (h2 : leB y z = true) : leB x z = true := by
 rw [leB_not] at *
 cases e : lessB z x with
 | false => rfl
 | true =>
  cases e2 : lessB x y with
  | true => have := less_trans e e2; rw [this] at h2; cases h2
  | false =>
   have h3 : lessB y x = false := by simpa using h1
   have := less_total e2 h3; subst this; rw [e] at h2; cases h2
theorem less_le {x y z : ByteArray} (h1 : lessB x y = true) (h2 : leB y z = true) : lessB x z = true := by
 unfold leB at h2
 rw [Bool.or_eq_true] at h2
 rcases h2 with h2 | h2
 ·
  exact less_trans h1 h2
 ·
  rw [eqB_iff] at h2; subst h2; exact h1
theorem sorted_ext {α : Type} {R : α → α → Prop} (irr : ∀ a, ¬ R a a) (asy : ∀ a b, R a b → ¬ R b a) : ∀ {l1 l2 : List α}, l1.Pairwise R → l2.Pairwise R → (∀ x, x ∈ l1 ↔ x ∈ l2) → l1 = l2
 | [], [], _, _, _ => rfl
 | [], b :: l2, _, _, h => absurd ((h b).mpr List.mem_cons_self) List.not_mem_nil
 | a :: l1, [], _, _, h => absurd ((h a).mp List.mem_cons_self) List.not_mem_nil
 | a :: l1, b :: l2, h1, h2, h => by
  rw [List.pairwise_cons] at h1 h2
  have e : a = b := by
   rcases List.mem_cons.mp ((h a).mp List.mem_cons_self) with q | q
   ·
    exact q
   rcases List.mem_cons.mp ((h b).mpr List.mem_cons_self) with r | r
   ·
    exact r.symm
   ·
    exact absurd (h1.1 _ r) (asy _ _ (h2.1 _ q))
  subst e
  rw [sorted_ext irr asy h1.2 h2.2 (fun x => ?_)]
  constructor
  ·
   intro hx
   rcases List.mem_cons.mp ((h x).mp (List.mem_cons_of_mem _ hx)) with q | q
   ·
    subst q; exact absurd (h1.1 _ hx) (irr _)
   ·
    exact q
  ·
   intro hx
   rcases List.mem_cons.mp ((h x).mpr (List.mem_cons_of_mem _ hx)) with q | q
   ·
    subst q; exact absurd (h2.1 _ hx) (irr _)
   ·
    exact q
theorem wrap_n {n : Nat} (h : n < 9223372036854775808) : IntKind.i64.wrap (n : Int) = (n : Int) := wrap_id (by omega) (by omega)
def goodA (a : Option Addr) : Prop := ∀ a0, a = some a0 → a0.spot ≠ some 2
theorem goodA_none : goodA none := fun _ h => by cases h
theorem AccR.first {α : Type} {R : Rep α} {elem : TypeId} {h0 : Heap} {tl : List Blk} {p : Option Addr} {xs : List α} (a : AccR R elem h0 tl (.slice p xs.length xs.length) xs) (hk : 0 < R.k) :
 ∃ rows, Rws R h0 rows xs ∧ ∀ (own : List Blk) (h' hf : Heap), (∀ e ∈ tl, e ∈ own) → Has own h0 h' hf → firstV h' R.k xs.length (.slice p xs.length xs.length) = some rows.flatten := by
 obtain ⟨_, ⟨h1, ⟨q, h2, h3⟩, _⟩ | ⟨b, rows, h2, h3, h4⟩⟩ := a
 ·
  subst h1
  refine ⟨[], ⟨rfl, fun i row x hr _ => by simp at hr⟩, fun own h' hf _ _ => ?_⟩
  unfold firstV
  cases p with
  | none => rfl
  | some a0 =>
   have : Nat.beq (([] : List α).length * R.k) 0 = true := by simp
   rw [this]; rfl
 ·
  have : p = some ⟨b, 0, some 0⟩ := by simpa using h2
  subst this h3
  refine ⟨rows, h4, fun own h' hf hm hs => ?_⟩
  have hb := (hs.blk _ (hm _ List.mem_cons_self)).1
  dsimp only at hb
  have fl := h4.flen
  unfold firstV
  dsimp only
  cases e0 : Nat.beq (xs.length * R.k) 0 with
  | true =>
   have : rows.flatten = [] := List.eq_nil_of_length_eq_zero (by rw [fl]; exact Nat.eq_of_beq_eq_true e0)
   rw [this]; rfl
  | false =>
   have q3 : Nat.ble (0 + xs.length * R.k) rows.flatten.length = true := Nat.ble_eq_true_of_le (by omega)
   simp only [cond_false, elemAddr, cellsAt, Nat.zero_add, hb]
   rw [Nat.zero_add] at q3
   rw [q3]
   simp only [cond_true, List.drop_zero, Option.some.injEq]
   rw [← fl, List.take_length]
def MR {K α : Type} (R : Rep α) (h : Heap) (raw : List (K × Value)) (m : List (K × List α)) : Prop :=
 raw.length = m.length ∧ ∀ (i : Nat) (e : K × List α), m[i]? = some e → ∃ a c, raw[i]? = some (e.1, .slice a e.2.length c) ∧ RL R h a c e.2 ∧ goodA a
section
variable {K α : Type} {R : Rep α} {h h' : Heap} {raw : List (K × Value)} {m : List (K × List α)}
theorem MR.nil : MR R h ([] : List (K × Value)) ([] : List (K × List α)) := ⟨rfl, fun i e h => by simp at h⟩
theorem MR.ext (s : MR R h raw m) (e : Kn h h') : MR R h' raw m := ⟨s.1, fun i x hx => by
 obtain ⟨a, c, h1, h2, h3⟩ := s.2 i x hx
 exact ⟨a, c, h1, h2.ext e, h3⟩⟩
theorem MR.tail {x : K × Value} {y : K × List α} (s : MR R h (x :: raw) (y :: m)) : MR R h raw m := ⟨by have := s.1; simpa using this, fun i e he => s.2 (i + 1) e he⟩
theorem MR.find [DecidableEq K] (k : K) : ∀ {raw : List (K × Value)} {m : List (K × List α)} (i : Nat), MR R h raw m →
 (mfind raw k i = none ∧ mfind m k i = none) ∨ ∃ j x a c, mfind raw k i = some (i + j, .slice a x.length c) ∧ mfind m k i = some (i + j, x) ∧ m[j]? = some (k, x) ∧ RL R h a c x ∧ goodA a
 | [], [], i, _ => .inl ⟨rfl, rfl⟩
 | [], _ :: _, _, s => by have := s.1; simp at this
 | _ :: _, [], _, s => by have := s.1; simp at this
 | e :: raw, x :: m, i, s => by
  obtain ⟨a, c, h1, h2, h3⟩ := s.2 0 x rfl
  have h1 : e = (x.1, .slice a x.2.length c) := by simpa using h1
  subst h1
  unfold mfind
  by_cases q : k = x.1
  ·
   rw [if_pos q, if_pos q]
   exact .inr ⟨0, x.2, a, c, rfl, rfl, by rw [q]; rfl, h2, h3⟩
  ·
   rw [if_neg q, if_neg q]
   rcases MR.find k (i + 1) s.tail with h4 | ⟨j, y, a, c, h4, h5, h6, h7⟩
   ·
    exact .inl h4
   ·
    exact .inr ⟨j + 1, y, a, c, by rw [h4]; congr 2; omega, by rw [h5]; congr 2; omega, h6, h7⟩
theorem MR.get [DecidableEq K] (s : MR R h raw m) (k : K) : ∃ a c, (mget raw k).getD (.slice none 0 0) = .slice a ((mget m k).getD []).length c ∧ RL R h a c ((mget m k).getD []) ∧ goodA a := by
 unfold mget
 rcases MR.find k 0 s with ⟨h1, h2⟩ | ⟨j, x, a, c, h1, h2, _, h3, h4⟩
 ·
  rw [h1, h2]; exact ⟨none, 0, rfl, RL.nil _ _ _, goodA_none⟩
 ·
  rw [h1, h2]; exact ⟨a, c, rfl, h3, h4⟩
theorem MR.isSome [DecidableEq K] (s : MR R h raw m) (k : K) : (mget raw k).isSome = (mget m k).isSome := by
 unfold mget
 rcases MR.find k 0 s with ⟨h1, h2⟩ | ⟨j, x, a, c, h1, h2, _⟩
 ·
  rw [h1, h2]; rfl
 ·
  rw [h1, h2]; rfl
theorem MR.set [DecidableEq K] (s : MR R h raw m) (k : K) {a : Option Addr} {c : Nat} {x : List α} (hx : RL R h a c x) (ha : goodA a) : MR R h (mset raw k (.slice a x.length c)) (mset m k x) := by
 unfold mset
 rcases MR.find k 0 s with ⟨h1, h2⟩ | ⟨j, y, b, d, h1, h2, h3, _⟩
 ·
  rw [h1, h2]
  refine ⟨by simp [s.1], fun i e he => ?_⟩
  dsimp only at he ⊢
  rcases Nat.lt_or_ge i m.length with q | q
  ·
   rw [List.getElem?_append_left q] at he
   obtain ⟨a', c', g1, g2⟩ := s.2 i e he
   exact ⟨a', c', by rw [List.getElem?_append_left (by rw [s.1]; exact q)]; exact g1, g2⟩
  ·
   rw [List.getElem?_append_right q] at he
   have hi : i - m.length = 0 := by
    rcases Nat.eq_zero_or_pos (i - m.length) with z | z
    ·
     exact z
    ·
     rw [List.getElem?_eq_none (by simp; omega)] at he; cases he
   rw [hi] at he
   have : (k, x) = e := by simpa using he
   subst this
   exact ⟨a, c, by rw [List.getElem?_append_right (by rw [s.1]; exact q), s.1, hi]; rfl, hx, ha⟩
 ·
  rw [h1, h2]
  refine ⟨by simp [s.1], fun i e he => ?_⟩
  dsimp only at he ⊢
  have hj : j < m.length := (List.getElem?_eq_some_iff.mp h3).1
  rw [Nat.zero_add] at he ⊢
  by_cases q : j = i
  ·
   subst q
   rw [List.getElem?_set_self hj] at he
   have : (k, x) = e := by simpa using he
   subst this
   exact ⟨a, c, List.getElem?_set_self (by rw [s.1]; exact hj), hx, ha⟩
  ·
   rw [List.getElem?_set_ne q] at he ⊢
   exact s.2 i e he
end
section
variable {X : Cx} {st : List It} {l : L} {segs : List (List Blk)} {h0 : Heap}
variable {r : Array Oper} {os : List Oper} {d : Nat} {ty : TypeId} {pos : String} {aft : Array Edge}
end
section
variable {X : Cx} {st : List It} {l : L} {segs : List (List Blk)} {own : List Blk} {h0 : Heap}
theorem go_regA1 {id : Nat} {ops : Array Oper} {L : List (Nat × List Nat)} {i1 : Nat} (hq : quietR X.E.P ops = false) (hL : sched ops = L) (hS : ∀ n, slots ops n = [(i1, n)])
 (g : ∀ b1, Goes X (.sops ops [(i1, b1)] L :: st) l ([⟨b1, .dead⟩] :: segs).flatten h0) : Goes X (.code (.region id ops true) :: st) l segs.flatten h0 := by
 intro fr h hf ag hs
 refine Dn.of_eq (fun n => ?_) (g h.n fr (h.alloc .dead) _ ag (hs.alloc .dead))
 simp only [exec, stepIt, evalC, hq, runDrawn, hS, hL, cond_true, cond_false, List.length_cons, List.length_nil, resv]
 rfl
theorem go_regA2 {id : Nat} {ops : Array Oper} {L : List (Nat × List Nat)} {i1 i2 : Nat} (hq : quietR X.E.P ops = false) (hL : sched ops = L) (hS : ∀ n, slots ops n = [(i1, n), (i2, n + 1)])
 (g : ∀ b1 b2, Goes X (.sops ops [(i1, b1), (i2, b2)] L :: st) l ([⟨b2, .dead⟩] :: [⟨b1, .dead⟩] :: segs).flatten h0) : Goes X (.code (.region id ops true) :: st) l segs.flatten h0 := by
 intro fr h hf ag hs
 refine Dn.of_eq (fun n => ?_) (g h.n (h.n + 1) fr ((h.alloc .dead).alloc .dead) _ ag ((hs.alloc .dead).alloc .dead))
 simp only [exec, stepIt, evalC, hq, runDrawn, hS, hL, cond_true, cond_false, List.length_cons, List.length_nil, resv]
 rfl
theorem go_snew {r : Array Oper} {sl : List (Nat × Nat)} {i d b : Nat} {L : List (Nat × List Nat)} {op : Op} {ty : TypeId} {pos : String} {aft : Array Edge} {cs : List Value} {T : TypeId} {v : Value}
 (ho : r[i]? = some ⟨some d, op, ty, pos, aft, none⟩) (ha : allocK op = true) (hn : Nat.blt d X.nt = true) (hb : slotL sl i = some b)
 (hv : ∀ fr, Agree l fr → ∃ f, newB X.E fr op = some (cs, T, f) ∧ f b = v) {segs' : List (List Blk)} (hg : SetSeg [⟨b, .dead⟩] [⟨b, .cells cs T⟩] segs segs')
 (kk : Goes X (.sops r sl L :: st) ((d, true, v) :: l) segs'.flatten h0) : Goes X (.sops r sl ((i, []) :: L) :: st) l segs.flatten h0 := by
 obtain ⟨pre, post, rfl, rfl⟩ := hg.pp
 refine go_perm (pf _ _ _) ?_
 have kk := go_perm (pf pre post [⟨b, .cells cs T⟩]).symm kk
 intro fr h hf ag hs
 obtain ⟨hbk, hlim⟩ := hs.at_ (i := 0) rfl
 obtain ⟨f, hnb, rfl⟩ := hv fr ag
 obtain ⟨fr', hput⟩ : ∃ fr', fr.put X.nt (some d) (f b) = some fr' := ⟨_, put_some hn _ _⟩
 have hfr : fr' = fr.set d (f b) := by rw [put_some hn] at hput; exact (Option.some.inj hput).symm
 refine Dn.of_eq (fun n => ?_) (kk fr' (h.set b (.cells cs T)) hf (by rw [hfr]; exact ag.set d true _) (hs.store (i := 0) rfl _))
 have hw : wantedV r fr ⟨some d, op, ty, pos, aft, none⟩ = true := rfl
 simp only [exec, stepIt, runSched, ho, hw, opS, ha, hb, rsvV, hnb, hbk, chkR, cond_true, hput]
theorem go_salloc {r : Array Oper} {sl : List (Nat × Nat)} {i d b : Nat} {L : List (Nat × List Nat)} {t : TypeId} {z : Value} {ty : TypeId} {pos : String} {aft : Array Edge} {cs : List Value}
 (ho : r[i]? = some ⟨some d, .alloc t, ty, pos, aft, none⟩) (hn : Nat.blt d X.nt = true) (hb : slotL sl i = some b) (hz : zeroOf X.E.P t = some z) (hc : z.cells.toList = cs)
 {segs' : List (List Blk)} (hg : SetSeg [⟨b, .dead⟩] [⟨b, .cells cs t⟩] segs segs')
 (kk : Goes X (.sops r sl L :: st) ((d, true, .pointer (some ⟨b, 0, none⟩)) :: l) segs'.flatten h0) : Goes X (.sops r sl ((i, []) :: L) :: st) l segs.flatten h0 := by
 subst hc
 exact go_snew ho rfl hn hb (fun fr _ => ⟨ptrTo, by simp only [newB, hz], rfl⟩) hg kk
theorem go_sbslice {r : Array Oper} {sl : List (Nat × Nat)} {i d b : Nat} {L : List (Nat × List Nat)} {t elem : TypeId} {len k : Nat} {ps : Array (Nat × Operand)} {vs : List (Nat × Value)} {z : Value} {ty : TypeId} {pos : String} {aft : Array Edge} {cs : List Value}
 (ho : r[i]? = some ⟨some d, .buildSlice t len ps, ty, pos, aft, none⟩) (hn : Nat.blt d X.nt = true) (hb : slotL sl i = some b) (hx : OPp l true ps.toList vs)
 (hu : X.E.P.underlying t = some (.slice elem)) (hk : sz X.E.P elem = some k) (hz : zeroOf X.E.P elem = some z) (hs : (Nat.ble (len * k) 16777216 && Nat.beq z.cells.size k) = true)
 (hc : fillL (fun i => some (i * k, k)) (repZ z.cells.toList len) vs = some cs)
 {segs' : List (List Blk)} (hg : SetSeg [⟨b, .dead⟩] [⟨b, .cells cs elem⟩] segs segs')
 (kk : Goes X (.sops r sl L :: st) ((d, true, .slice (some ⟨b, 0, none⟩) len len) :: l) segs'.flatten h0) : Goes X (.sops r sl ((i, []) :: L) :: st) l segs.flatten h0 := by
 exact go_snew ho rfl hn hb (fun fr ag => ⟨fun b => .slice (some ⟨b, 0, none⟩) len len, by simp only [newB, hx fr ag rfl, hu, hk, hz, hs, cond_true, hc], rfl⟩) hg kk
end
def CallV (E : Env) (v : Value) (args : List Value) (segs : List (List Blk)) (h0 : Heap) (Q : Value → List (List Blk) → Heap → Prop) : Prop :=
 ∃ gf ca, v = .func (.func gf) #[] ca ∧ hasBody E.P gf = true ∧ EvO E gf (args ++ ca.toList) segs h0 Q
section
variable {X : Cx} {st : List It} {l : L} {h0 : Heap} {segs : List (List Blk)}
variable {r : Array Oper} {os : List Oper} {ty : TypeId} {pos : String} {aft : Array Edge}
theorem gs_calld {dst : Option Nat} {f : Operand} {xs : Array Operand} {ts : Array TypeId} {fv : Value} {vs : List Value} {F rest : List (List Blk)} {Q : Value → List (List Blk) → Heap → Prop}
 (hF : FramedE X.E) (hw0 : Wf h0) (hp : Takes F segs rest) (hn : ∀ d, dst = some d → Nat.blt d X.nt = true) (hf' : OP l true f fv) (hx : OPs l true xs.toList vs)
 (hs : CallV X.E fv vs F h0 Q)
 (kk : ∀ v F' h1, HExt h0 h1 → Wf h1 → Q v F' h1 → Goes X (.ops r false os :: st) (match dst with | some d => (d, true, v) :: l | none => l) (F' ++ rest).flatten h1) :
 Goes X (.ops r false (⟨dst, .call ⟨.value f, xs, ts⟩, ty, pos, aft, none⟩ :: os) :: st) l segs.flatten h0 := by
 obtain ⟨gf, ca, rfl, hb, ev⟩ := hs
 exact gs_call (fi := #[]) hF hw0 hp hn hf' hx hb (by simpa using ev) kk
end
def mkZ (n : Int) : Option (List Int) := if 0 ≤ n ∧ n ≤ 1000000 then some (List.replicate n.toNat 0) else none
theorem repZ_flat (v : Value) : ∀ m, repZ [v] m = (List.replicate m [v]).flatten
 | 0 => rfl
 | m + 1 => by rw [List.replicate_succ, List.flatten_cons, ← repZ_flat v m]; rfl
theorem zeroRows (ik : IntKind) (T : Nat) (h : Heap) (m : Nat) : Rws (RI_ ik T) h (List.replicate m [.int ik 0]) (List.replicate m 0) := by
 refine ⟨by simp, fun i row x hr hx => ?_⟩
 rw [List.getElem?_replicate] at hr hx
 split at hr
 ·
  rename_i q
  rw [if_pos q] at hx
  cases hr; cases hx; rfl
 ·
  cases hr
section
variable {X : Cx} {st : List It} {l : L} {h0 : Heap} {segs : List (List Blk)}
variable {r : Array Oper} {os : List Oper} {d : Nat} {ty : TypeId} {pos : String} {aft : Array Edge}
theorem gs_mkz {t elem : TypeId} {L C : Operand} {n : Int} {b : Nat} {xs : List Int} (ik : IntKind) (hn : Nat.blt d X.nt = true) (hx : mkZ n = some xs) (hL : OP l true L (.int .i64 n)) (hC : OP l true C (.int .i64 n))
 (hu : X.E.P.underlying t = some (.slice elem)) (hk : sz X.E.P elem = some 1) (hb : bytesOf X.E.P elem = some b) (hb8 : b ≤ 8) (hz : zeroOf X.E.P elem = some (.int ik 0))
 (kk : ∀ b h1, HExt h0 h1 → Wf h1 → RL (RI_ ik elem) h1 (some ⟨b, 0, none⟩) xs.length xs → Goes X (.ops r false os :: st) ((d, true, .slice (some ⟨b, 0, none⟩) xs.length xs.length) :: l) segs.flatten h1) :
 Goes X (.ops r false (⟨some d, .makeSlice t L C, ty, pos, aft, none⟩ :: os) :: st) l segs.flatten h0 := by
 unfold mkZ at hx
 split at hx
 ·
  rename_i q
  obtain ⟨q1, q2⟩ := q
  have hx := Option.some.inj hx
  subst hx
  have e : n = ((n.toNat : Nat) : Int) := by omega
  rw [e] at hL hC
  have hbi : (b : Int) * (n.toNat : Int) ≤ 281474976710656 := by
   have h1 : (b : Int) * (n.toNat : Int) ≤ 8 * (n.toNat : Int) := Int.mul_le_mul_of_nonneg_right (by omega) (by omega)
   omega
  refine gs_mslice (n := n.toNat) (c := n.toNat) (cs := repZ [.int ik 0] n.toNat) hn hL hC hu hk hb hz (by rw [Bool.and_eq_true]; exact ⟨decide_eq_true ⟨by omega, by omega, by omega, hbi⟩, rfl⟩) rfl (fun bk => ?_)
  refine gs_pub .z (fun h1 e1 w1 hb1 => ?_)
  have k := kk bk h1 e1 w1 (by
   rw [List.length_replicate]
   exact RL.of_blk (R := RI_ ik elem) (.inl rfl) hb1 (repZ_flat _ _) (zeroRows ik elem h1 n.toNat) (by rw [List.length_replicate]; omega) (by simp) rfl)
  rw [List.length_replicate] at k
  exact k
 ·
  cases hx
end
end Go.Proofs.YtndhbaidibioeaaGreat.V
