/- slices.Insert of one element, told: of what grows, a new row. .. and what follows it, in one text.
   No condition beyond those that each part names. -/
import Derived.Test.YtndhbaidibioeaaGreatVu
import Derived.Laws.Externs
import Derived.Lib.Overlaps
namespace Go.Proofs.YtndhbaidibioeaaGreat.V
open Go
set_option linter.unusedVariables false
set_option linter.unusedSimpArgs false
def insC (k i : Nat) (cs vr : List Value) : List Value := cs.take (i * k) ++ (vr ++ cs.drop (i * k))
structure InsOk (k bytes : Nat) (elem : TypeId) (lim b vb n c : Nat) (i : Int) (cs vr : List Value) (T : TypeId) : Prop where
 limb : lim ≤ b
 Te : T = elem
 csl : cs.length = n * k
 ce : c = n
 vrl : vr.length = k
 csp : cs.all (plainN 4) = true
 vrp : vr.all (plainN 4) = true
 ne : b ≠ vb
 i0 : 0 ≤ i
 i1 : i < (n : Int)
 room : roomy (n + 1) bytes = true
 k0 : 0 < k
 cso : cs.all cellOk = true
 vro : vr.all cellOk = true
structure InsRun (k bytes : Nat) (elem : TypeId) (E : Env) (g : FuncId) : Prop where
 size : sz E.P elem = some k
 A : ∀ (b vb n i : Nat) (cs vr : List Value) (Tv : TypeId) (h : Heap), Wf h → h.get b = some (.cells cs elem) → h.get vb = some (.cells vr Tv) → cs.length = n * k → vr.length = k → i < n → roomy (n + 1) bytes = true → 0 < k → cs.all cellOk = true → vr.all cellOk = true →
  EvO E g [.slice (some ⟨b, 0, none⟩) n n, .int .i64 i, .slice (some ⟨vb, 0, none⟩) 1 1] [] h (fun v S h1 => ∃ b2, v = .slice (some ⟨b2, 0, some 0⟩) (n + 1) (n + 1) ∧ S = [[⟨b2, .cells (insC k i cs vr) elem⟩]])
 B : ∀ (B s n c i VB vs : Nat) (C VC : Array Value) (T VT : TypeId) (fr vfr : Nat × Nat) (cs vr : List Value) (w : World), w.heap[B]? = some (.cells C T fr) → Unfrozen C.size fr → s + c * k ≤ C.size → cs.length = n * k → (∀ (j : Nat) (v : Value), cs[j]? = some v → C[s + j]? = some v) →
  w.heap[VB]? = some (.cells VC VT vfr) → Unfrozen VC.size vfr → vs + k ≤ VC.size → vr.length = k → (∀ (j : Nat) (v : Value), vr[j]? = some v → VC[vs + j]? = some v) → VB ≠ B → i < n → n + 1 ≤ c → n + 1 < 9223372036854775808 → (∀ v ∈ cs, v.oneCell' = true) → (∀ v ∈ vr, v.oneCell' = true) →
  Calls E.P g #[.slice (some ⟨B, s, none⟩) n c, .int .i64 i, .slice (some ⟨VB, vs, none⟩) 1 1] w (fun e w' => e = .returned (.slice (some ⟨B, s, none⟩) (n + 1) c) ∧
   ∃ (C' : Array Value) (d : Nat), w' = { w with drawn := d, heap := w.heap.setIfInBounds B (.cells C' T fr) } ∧ C'.toList = splice (splice C.toList (s + (i + 1) * k) (cs.drop (i * k))) (s + i * k) vr)
end Go.Proofs.YtndhbaidibioeaaGreat.V
namespace Go.Proofs.YtndhbaidibioeaaGreat.V
open Go
set_option linter.unusedVariables false
set_option linter.unusedSimpArgs false
section
variable {X : Cx} {st : List It} {l : L} {own rest : List Blk} {h0 : Heap}
variable {r : Array Oper} {os : List Oper} {d : Option Nat} {ty : TypeId} {pos : String} {aft : Array Edge}
def putL (d : Option Nat) (v : Value) (l : L) : L := match d with | some d => (d, true, v) :: l | none => l
theorem g_wr {op : Op} {v : Value} {b : Nat} {o o' : O} (hn : ∀ e, d = some e → Nat.blt e X.nt = true)
 (ho : ∀ fr h hf, Agree l fr → Has (⟨b, o⟩ :: rest) h0 h hf → opV X.E (run X.E 0) fr h op = some (v, h.set b o'))
 (kk : Goes X (.ops r false os :: st) (putL d v l) (⟨b, o'⟩ :: rest) h0) : Goes X (.ops r false (⟨d, op, ty, pos, aft, none⟩ :: os) :: st) l (⟨b, o⟩ :: rest) h0 := by
 intro fr h hf ag hs
 have h1 := ho fr h hf ag hs
 cases d with
 | none => exact step_op rfl h1 rfl (kk _ _ _ ag (hs.storeH o'))
 | some e => exact step_op rfl h1 (put_some (hn e rfl) _ _) (kk _ _ _ (ag.set e true v) (hs.storeH o'))
end
theorem bound_some {ik : IntKind} {d y n : Nat} (h : n ≤ y) : boundV (some (.int ik (n : Int))) d y = some n := by
 simp only [boundV]; rw [if_pos ⟨by omega, by omega⟩]; rfl
theorem sl_any {E : Env} {h : Heap} {t elem k len c : Nat} {a : Addr} {o1 o2 : Option Value} {lo hi : Nat} {a' : Addr} (hu : E.P.underlying t = some (.slice elem)) (hk : sz E.P elem = some k) (hh : boundV o2 len c = some hi) (hl : boundV o1 0 hi = some lo)
 (hc : hi ≤ c) (hs : slackOk h a elem = true) (ha : sliceAddr a c lo (lo * k) = some a') : sliceV E h t (.slice (some a) len c) o1 o2 none = some (.slice (some a') (hi - lo) (c - lo)) := by
 unfold sliceV
 rw [hu]; dsimp only
 rw [show boundV none c c = some c from rfl]; dsimp only
 simp only [Option.isSome_none, Bool.false_and, cond_false, hh, hl, hk, Bool.false_or]
 rw [Nat.ble_eq_true_of_le hc, hs]
 simp only [Bool.and_self, cond_true, ha]
theorem first_blk {h : Heap} {b o k n : Nat} {sp : Option Nat} {cs : List Value} {T : TypeId} {len c : Nat} (hsp : sp = none ∨ sp = some 0) (hb : h.get b = some (.cells cs T)) (hl : o + n * k ≤ cs.length) : firstV h k n (.slice (some ⟨b, o, sp⟩) len c) = some ((cs.drop o).take (n * k)) := by
 unfold firstV
 dsimp only
 cases e : Nat.beq (n * k) 0 with
 | true => rw [Nat.eq_of_beq_eq_true e, List.take_zero]; rfl
 | false =>
  have : elemAddr ⟨b, o, sp⟩ 0 = some ⟨b, o, none⟩ := by rcases hsp with q | q <;> subst q <;> rfl
  simp only [cond_false, this, cellsAt, hb, Nat.ble_eq_true_of_le hl, cond_true]
theorem store_own {h : Heap} {b o : Nat} {cs vs : List Value} {T : TypeId} (hb : h.get b = some (.cells cs T)) (hlim : h.lim ≤ b) (hl : o + vs.length ≤ cs.length) (hv : vs.all cellOk = true) : storeCells h ⟨b, o, none⟩ vs = some (h.set b (.cells (splice cs o vs) T)) := by
 unfold storeCells
 dsimp only
 rw [hb]; dsimp only
 rw [Nat.ble_eq_true_of_le hlim, Nat.ble_eq_true_of_le hl, hv]; rfl
theorem copy_own {E : Env} {h : Heap} {ts : Array TypeId} {sT elem k len c m mm b o : Nat} {x : Value} {cs vs : List Value} {T : TypeId} {sp : Option Nat} (hsp : sp = none ∨ sp = some 0) (ht : ts[0]? = some sT) (hu : E.P.underlying sT = some (.slice elem)) (hk : sz E.P elem = some k) (hlen : lenOfV x = some m) (hmm : Nat.min m len = mm)
 (hf : firstV h k mm x = some vs) (hvl : vs.length = mm * k) (hb : h.get b = some (.cells cs T)) (hlim : h.lim ≤ b) (hl : o + vs.length ≤ cs.length) (hv : vs.all cellOk = true) (hpos : 0 < mm * k) :
 copyV E h ts (.slice (some ⟨b, o, sp⟩) len c) x = some (goInt mm, h.set b (.cells (splice cs o vs) T)) := by
 subst hmm
 have hst := store_own hb hlim hl hv
 have hbeq : Nat.beq vs.length (Nat.min m len * k) = true := by rw [hvl]; exact Nat.beq_refl _
 have hel : elemAddr ⟨b, o, sp⟩ 0 = some ⟨b, o, none⟩ := by rcases hsp with q | q <;> subst q <;> rfl
 simp only [copyV, ht, hu, hk, hlen, hf, hbeq, Bool.not_true, cond_false, Trie.nb (show ¬ Nat.min m len * k = 0 by omega), hel, hst]
end Go.Proofs.YtndhbaidibioeaaGreat.V
namespace Go.Proofs.YtndhbaidibioeaaGreat.V
open Go
set_option linter.unusedVariables false
set_option linter.unusedSimpArgs false
theorem opV_copy {E : Env} {call : FuncId → List Value → Heap → Option (Value × Heap)} {fr : Fr} {h : Heap} {xs : Array Operand} {ts : Array TypeId} {s x : Value} {r : Value × Heap} (e : evs fr xs.toList = some [s, x]) (hr : copyV E h ts s x = some r) : opV E call fr h (.call ⟨.builtin .copy, xs, ts⟩) = some r := by
 simp only [opV, readV, writeV, e, hr]
section
variable {X : Cx} {st : List It} {l : L} {own rest : List Blk} {h0 : Heap}
variable {r : Array Oper} {os : List Oper} {d : Option Nat} {ty : TypeId} {pos : String} {aft : Array Edge}
end
theorem flat_take {k : Nat} : ∀ (rows : List (List Value)) (i : Nat), (∀ r ∈ rows, r.length = k) → (rows.take i).flatten = rows.flatten.take (i * k) := by
 intro rows
 induction rows with
 | nil => intro i _; simp
 | cons x rows ih =>
  intro i hr
  have hx := hr x List.mem_cons_self
  cases i with
  | zero => simp
  | succ i =>
   rw [List.take_succ_cons, List.flatten_cons, List.flatten_cons, ih i (fun y hy => hr y (List.mem_cons_of_mem _ hy)), Nat.succ_mul, show i * k + k = x.length + i * k by omega, List.take_length_add_append]
theorem flat_drop {k : Nat} : ∀ (rows : List (List Value)) (i : Nat), (∀ r ∈ rows, r.length = k) → (rows.drop i).flatten = rows.flatten.drop (i * k) := by
 intro rows
 induction rows with
 | nil => intro i _; simp
 | cons x rows ih =>
  intro i hr
  have hx := hr x List.mem_cons_self
  cases i with
  | zero => simp
  | succ i =>
   rw [List.drop_succ_cons, List.flatten_cons, ih i (fun y hy => hr y (List.mem_cons_of_mem _ hy)), Nat.succ_mul, show i * k + k = x.length + i * k by omega, List.drop_length_add_append]
namespace Rws
variable {α : Type} {R : Rep α} {h : Heap} {rows : List (List Value)} {xs : List α}
theorem take (s : Rws R h rows xs) (n : Nat) : Rws R h (rows.take n) (xs.take n) := by
 refine ⟨by rw [List.length_take, List.length_take, s.len], fun i row x hr hx => ?_⟩
 rw [List.getElem?_take] at hr hx
 split at hr
 ·
  rename_i q; rw [if_pos q] at hx; exact s.C i row x hr hx
 ·
  cases hr
theorem drop (s : Rws R h rows xs) (n : Nat) : Rws R h (rows.drop n) (xs.drop n) := by
 refine ⟨by rw [List.length_drop, List.length_drop, s.len], fun i row x hr hx => ?_⟩
 rw [List.getElem?_drop] at hr hx
 exact s.C _ row x hr hx
theorem plain (s : Rws R h rows xs) (hpl : ∀ h row x, R.C h row x → row.all (plainN 4) = true) : rows.flatten.all (plainN 4) = true := by
 rw [List.all_eq_true]
 intro v hv
 obtain ⟨row, hr, hv⟩ := List.mem_flatten.mp hv
 obtain ⟨x, hx⟩ := s.at_ hr
 exact List.all_eq_true.mp (hpl _ _ _ hx) v hv
end Rws
section
variable {E : Env} {l : L} {own : List Blk} {h0 : Heap}
end
def lpK2 {α β γ : Type} (x : Lp α β) (k : α → Option (Lp γ β)) : Option (Lp γ β) := match x with | .go s => k s | .out r => some (.out r)
def subL0 {α : Type} (xs : List α) (l h : Int) : Option (List α) := if 0 ≤ l ∧ l ≤ h ∧ h ≤ (xs.length : Int) then some ((xs.drop l.toNat).take (h.toNat - l.toNat)) else none
theorem subL0_ok {α : Type} {R : Rep α} {E : Env} {h : Heap} {t e k c : Nat} {a : Option Addr} {xs ys : List α} {l u : Int} (hs : RL R h a c xs) (hy : subL0 xs l u = some ys) (h0 : xs = [] → c = 0)
 (hu : E.P.underlying t = some (.slice e)) (hz : sz E.P e = some k) (hk : k = R.k) (hT : e = R.T) : ∃ a' c', SubOK R E h t a xs ys c l u a' c' := by
 subst hk hT
 unfold subL0 at hy
 split at hy
 ·
  rename_i q
  cases hy
  obtain ⟨q1, q2, q3⟩ := q
  have hlen : ((xs.drop l.toNat).take (u.toNat - l.toNat)).length = u.toNat - l.toNat := by rw [List.length_take, List.length_drop]; omega
  have hc := hs.2.1
  have key : ∃ a', (∀ hf, Kn h hf → cutA hf R.T R.k c l.toNat u.toNat a = some (.slice a' (u.toNat - l.toNat) (c - l.toNat))) ∧ RL R h a' (c - l.toNat) ((xs.drop l.toNat).take (u.toNat - l.toNat)) := by
   have hget : ∀ i x, ((xs.drop l.toNat).take (u.toNat - l.toNat))[i]? = some x → xs[l.toNat + i]? = some x := by
    intro i x hx
    rw [List.getElem?_take] at hx
    split at hx
    ·
     rw [List.getElem?_drop] at hx; exact hx
    ·
     cases hx
   cases a with
   | none =>
    refine ⟨none, fun hf kn => rfl, ⟨by have := hs.1; rw [hlen]; omega, by rw [hlen]; omega, fun i x hx => ?_, fun a0 e => by cases e⟩⟩
    obtain ⟨a0, _, _, e, _⟩ := hs.2.2.1 _ x (hget i x hx)
    cases e
   | some a0 =>
    have hsl : ∀ hf, Kn h hf → slackOk hf a0 R.T = true := by
     intro hf kn
     unfold slackOk
     split
     ·
      rename_i e
      obtain ⟨cs, hcs⟩ := hs.2.2.2 a0 rfl e
      rw [kn.get _ _ hcs (by intro q; cases q)]; exact Nat.beq_refl _
     ·
      rfl
    obtain ⟨b, o, sp⟩ := a0
    have hble : Nat.ble u.toNat c = true := Nat.ble_eq_true_of_le (by omega)
    by_cases hml : c = l.toNat
    ·
     have hn : u.toNat - l.toNat = 0 := by omega
     have h0 : ((xs.drop l.toNat).take (u.toNat - l.toNat)) = [] := by rw [hn]; rfl
     have hb : Nat.beq c l.toNat = true := by rw [hml]; exact Nat.beq_refl _
     have hemp : ∀ a', (∀ a0, a' = some a0 → a0.spot = some 0 → ∃ cs, h.get a0.block = some (.cells cs R.T)) → RL R h a' (c - l.toNat) ((xs.drop l.toNat).take (u.toNat - l.toNat)) := by
      intro a' hz; rw [h0]; exact ⟨by simp, Nat.zero_le _, fun i x hx => by simp at hx, hz⟩
     cases sp with
     | none => exact ⟨some ⟨b, o, none⟩, fun hf kn => by simp only [cutA, hble, hsl hf kn, Bool.and_self, cond_true, cond_false, sliceAddr, hb], hemp _ (fun a0 e1 e2 => by cases e1; cases e2)⟩
     | some s =>
      match s with
      | 0 => exact ⟨some ⟨0, 0, some 2⟩, fun hf kn => by simp only [cutA, hble, hsl hf kn, Bool.and_self, cond_true, cond_false, sliceAddr, hb], hemp _ (fun a0 e1 e2 => by cases e1; cases e2)⟩
      | 1 => exact ⟨some ⟨b, o, some 1⟩, fun hf kn => by simp only [cutA, hble, hsl hf kn, Bool.and_self, cond_true, cond_false, sliceAddr, hb], hemp _ (fun a0 e1 e2 => by cases e1; cases e2)⟩
      | s + 2 => exact ⟨some ⟨b, o, some (s + 2)⟩, fun hf kn => by simp only [cutA, hble, hsl hf kn, Bool.and_self, cond_true, cond_false, sliceAddr, hb], hemp _ (fun a0 e1 e2 => by cases e1; cases e2)⟩
    ·
     have hb : Nat.beq c l.toNat = false := Trie.nb hml
     have mk : ∀ sp' : Option Nat, (∀ j, elemAddr ⟨b, o, sp⟩ ((l.toNat + j) * R.k) = elemAddr ⟨b, o + l.toNat * R.k, sp'⟩ (j * R.k)) → (sp' = some 0 → sp = some 0) →
      RL R h (some ⟨b, o + l.toNat * R.k, sp'⟩) (c - l.toNat) ((xs.drop l.toNat).take (u.toNat - l.toNat)) := by
      intro sp' he hz
      refine ⟨by have := hs.1; rw [hlen]; omega, by rw [hlen]; omega, fun i x hx => ?_, fun a0 e1 e2 => ?_⟩
      ·
       obtain ⟨a0, a', row, h1, h2, h3, h4⟩ := hs.2.2.1 _ x (hget i x hx)
       cases h1
       exact ⟨_, a', row, rfl, by rw [← he]; exact h2, h3, h4⟩
      ·
       cases e1
       exact hs.2.2.2 ⟨b, o, sp⟩ rfl (hz e2)
     have ar : ∀ j, o + (l.toNat + j) * R.k = o + l.toNat * R.k + j * R.k := by intro j; rw [Nat.add_mul]; omega
     cases sp with
     | none => exact ⟨some ⟨b, o + l.toNat * R.k, none⟩, fun hf kn => by simp only [cutA, hble, hsl hf kn, Bool.and_self, cond_true, cond_false, sliceAddr, hb], mk none (fun j => by simp only [elemAddr, ar]) id⟩
     | some s =>
      match s with
      | 0 => exact ⟨some ⟨b, o + l.toNat * R.k, some 0⟩, fun hf kn => by simp only [cutA, hble, hsl hf kn, Bool.and_self, cond_true, cond_false, sliceAddr, hb], mk (some 0) (fun j => by simp only [elemAddr, ar]) id⟩
      | 1 => exact ⟨some ⟨b, o + l.toNat * R.k, some 1⟩, fun hf kn => by simp only [cutA, hble, hsl hf kn, Bool.and_self, cond_true, cond_false, sliceAddr, hb], mk (some 1) (fun j => by simp only [elemAddr, ar]) id⟩
      | s + 2 =>
       exfalso
       cases xs with
       | nil => simp only [List.length_nil] at q3; rw [h0 rfl] at hml; omega
       | cons x r => obtain ⟨a0, a', _, e1, e2, _⟩ := hs.2.2.1 0 x rfl; cases e1; cases e2
  obtain ⟨a', h1, h2⟩ := key
  have b1 : ∀ (ik : IntKind) (y : Nat), u ≤ (y : Int) → boundV (some (.int ik u)) xs.length y = some u.toNat := fun ik y hy => by simp only [boundV]; rw [if_pos ⟨by omega, hy⟩]
  have b2 : ∀ (ik : IntKind), boundV (some (.int ik l)) 0 u.toNat = some l.toNat := fun ik => by simp only [boundV]; rw [if_pos ⟨q1, by omega⟩]
  refine ⟨a', c - l.toNat, ⟨fun {hf ik ik'} kn => ?_, fun {hf ik} kn e => ?_, fun {hf ik} kn e => ?_, fun {hf} kn e1 e2 => ?_, h2⟩⟩
  ·
   unfold sliceV
   rw [hu]; dsimp only
   rw [show boundV none c c = some c from rfl]; dsimp only
   rw [b1 ik' c (by omega)]
   simp only [Option.isSome_none, Bool.false_and, cond_false, b2, hz, hlen]
   have h3 := h1 hf kn
   cases a <;> exact h3
  ·
   have eu : u.toNat = xs.length := by omega
   unfold sliceV
   rw [hu]; dsimp only
   rw [show boundV none c c = some c from rfl]; dsimp only
   rw [show boundV none xs.length c = some xs.length from rfl, ← eu]
   simp only [Option.isSome_none, Bool.false_and, cond_false, b2, hz, hlen]
   have h3 := h1 hf kn
   cases a <;> exact h3
  ·
   have el : l.toNat = 0 := by omega
   unfold sliceV
   rw [hu]; dsimp only
   rw [show boundV none c c = some c from rfl]; dsimp only
   rw [b1 ik c (by omega)]
   simp only [Option.isSome_none, Option.isNone_some, Bool.false_and, cond_false, hz, hlen]
   rw [show boundV none 0 u.toNat = some 0 from rfl, ← el]
   have h3 := h1 hf kn
   cases a <;> exact h3
  ·
   have el : l.toNat = 0 := by omega
   have eu : u.toNat = xs.length := by omega
   unfold sliceV
   rw [hu]; dsimp only
   rw [show boundV none c c = some c from rfl]; dsimp only
   rw [show boundV none xs.length c = some xs.length from rfl, ← eu]
   simp only [Option.isSome_none, Bool.false_and, cond_false, hz, hlen]
   rw [show boundV none 0 u.toNat = some 0 from rfl, ← el]
   have h3 := h1 hf kn
   cases a <;> exact h3
 ·
  cases hy
theorem lpgo {α β : Type} {s : α} {k : α → Option β} {r : β} (h : lpK (.go s) k = some r) : k s = some r := h
theorem lpgo2 {α β γ : Type} {s : α} {k : α → Option (Lp γ β)} {r : Lp γ β} (h : lpK2 (.go s) k = some r) : k s = some r := h
end Go.Proofs.YtndhbaidibioeaaGreat.V
