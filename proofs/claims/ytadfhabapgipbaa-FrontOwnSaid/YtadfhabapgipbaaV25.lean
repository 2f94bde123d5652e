/- Rules for blocks that are given away, forgotten, and for rows that grow.
   No condition: these are laws of the clean machine. -/
import Derived.Test.YtadfhabapgipbaaV24
namespace Go.Proofs.Ytadfhabapgipbaa.V
open Go
set_option linter.unusedVariables false
set_option linter.unusedSimpArgs false

/-- An element's address is one of the base, or of a block made here. -/
theorem elem_spot {a0 a : Addr} {j : Nat} (h : elemAddr a0 j = some a) : a.spot = none ∨ a.spot = some 1 := by
  unfold elemAddr at h
  split at h
  · cases h; exact .inl rfl
  · cases h; exact .inl rfl
  · cases h; exact .inr rfl
  · cases h
theorem base_get {h : Heap} {b : Nat} : ∀ {n o i : Nat} {r : List Value} {v : Value}, baseCells h b o n = some r → r[i]? = some v → h.base b (o + i) = some v := by
  intro n
  induction n with
  | zero => intro o i r v h1 h2; cases h1; simp at h2
  | succ n ih =>
    intro o i r v h1 h2
    unfold baseCells at h1
    split at h1
    · rename_i w hw
      split at h1
      · rename_i r' hr
        cases h1
        cases i with
        | zero => have : w = v := by simpa using h2
                  subst this; exact hw
        | succ i => have := ih hr (i := i) (v := v) (by simpa using h2)
                    rw [show o + (i + 1) = o + 1 + i by omega]; exact this
      · cases h1
    · cases h1
theorem cell_of_cells {h : Heap} {a : Addr} {k i : Nat} {r : List Value} {v : Value} (hc : cellsAt h a k = some r) (hv : r[i]? = some v) : cellAt h ⟨a.block, a.off + i, a.spot⟩ = some v := by
  unfold cellsAt at hc
  unfold cellAt
  split at hc
  · rename_i hs
    split at hc
    · rename_i c T hg
      cases e : Nat.ble (a.off + k) c.length with
      | false => rw [e] at hc; cases hc
      | true =>
        rw [e] at hc
        cases hc
        dsimp only
        rw [hs]; dsimp only; rw [hg]; dsimp only
        rw [List.getElem?_take] at hv
        split at hv
        · rw [List.getElem?_drop] at hv; exact hv
        · cases hv
    · cases hc
  · rename_i hs
    dsimp only at hs ⊢
    rw [hs]
    exact base_get hc hv
  · cases hc
theorem ld_field {E : Env} {t k i : Nat} {a : Addr} {r : List Value} {v : Value} {h : Heap} (ht : isAggT E.P t = some false) (hc : cellsAt h a k = some r) (hv : r[i]? = some v) : loadV E h t ⟨a.block, a.off + i, a.spot⟩ = some v := by
  unfold loadV; rw [ht]; exact cell_of_cells hc hv
section
variable {X : Cx} {st : List It} {l : L} {own : List Blk} {h0 : Heap}

/-- What is done only if .. -/
theorem rg {E : Env} {g : Bool} {op : Op} {v : Value} (h : g = true → RV E l own h0 g op v) : RV E l own h0 g op v := fun fr h' hf ag hs q => h q fr h' hf ag hs q
/-- A value, told otherwise. -/
theorem go_cast {d : Nat} {g : Bool} {v : Value} (v2 : Value) (e : v = v2) (k : Goes X st ((d, g, v2) :: l) own h0) : Goes X st ((d, g, v) :: l) own h0 := by subst e; exact k
/-- A block is given to all else. -/
theorem go_pub (i : Nat) {b : Nat} {o : O} (hi : own[i]? = some ⟨b, o⟩)
    (k : ∀ h1, HExt h0 h1 → Wf h1 → h1.get b = some o → Goes X st l (own.eraseIdx i) h1) : Goes X st l own h0 := by
  intro fr h hf ag hs
  have hp := hs.pub hi
  exact k _ hp.ext hp.wf (by rw [get_set, if_pos rfl]) fr h _ ag ⟨HExt.refl _, hp.wf, hp.msk, hp.blk, hp.nd⟩
/-- Some blocks are forgotten. -/
theorem go_sub {own' : List Blk} (s : own'.Sublist own) (k : Goes X st l own' h0) : Goes X st l own h0 := by
  intro fr h hf ag hs
  obtain ⟨hf', hs'⟩ := hs.sub s
  exact k fr h hf' ag hs'
theorem go_perm {own' : List Blk} (s : own.Perm own') (k : Goes X st l own' h0) : Goes X st l own h0 := fun fr h hf ag hs => k fr h hf ag (hs.perm s)
theorem Goes.back {h1 : Heap} (e : HExt h0 h1) (k : Goes X st l own h0) : Goes X st l own h1 := fun fr h hf ag hs => k fr h hf ag (hs.back e)

/-! ### Rows that grow -/
/-- What a slice that is appended to holds: 'tl' is its block, if it has one. -/
def AccT (elem : TypeId) (tl : List Blk) (v : Value) (rows : List (List Value)) : Prop :=
  (rows = [] ∧ v = .slice none 0 0 ∧ tl = []) ∨ ∃ b, v = .slice (some ⟨b, 0, some 0⟩) rows.length rows.length ∧ tl = [⟨b, .cells rows.flatten elem⟩]
theorem AccT.nil (elem : TypeId) : AccT elem [] (.slice none 0 0) [] := .inl ⟨rfl, rfl, rfl⟩
theorem AccT.len {elem : TypeId} {tl : List Blk} {v : Value} {rows : List (List Value)} (a : AccT elem tl v rows) : ∃ p, v = .slice p rows.length rows.length := by
  rcases a with ⟨h1, h2, h3⟩ | ⟨b, h1, h2⟩
  · subst h1; exact ⟨none, h2⟩
  · exact ⟨_, h1⟩

theorem flat_len {k : Nat} {rows : List (List Value)} (h : ∀ r ∈ rows, r.length = k) : rows.flatten.length = rows.length * k := by
  induction rows with
  | nil => simp
  | cons r rows ih =>
    rw [List.flatten_cons, List.length_append, h r List.mem_cons_self, ih (fun x hx => h x (List.mem_cons_of_mem _ hx)), List.length_cons, Nat.succ_mul, Nat.add_comm]

variable {r : Array Oper} {os : List Oper} {d : Nat} {ty : TypeId} {pos : String} {aft : Array Edge}

/-- One row is appended: it lies in a block of its own. -/
theorem g_append1 {pre tl : List Blk} {xs : Array Operand} {ts : Array TypeId} {sT elem k bytes : Nat} {v z : Value} {rows : List (List Value)} {row : List Value} {bx cx : Nat} {Tx : TypeId} (j : Nat)
    (hn : Nat.blt d X.nt = true) (hx : OPs l true xs.toList [v, .slice (some ⟨bx, 0, none⟩) 1 cx]) (ht : ts[0]? = some sT) (hu : X.E.P.underlying sT = some (.slice elem)) (hk : sz X.E.P elem = some k)
    (hby : bytesOf X.E.P elem = some bytes) (hz : zeroOf X.E.P elem = some z) (hzz : Nat.beq z.cells.size k = true) (hzs : zerosV X.E.P ts = some false)
    (hj : (pre ++ tl)[j]? = some ⟨bx, .cells row Tx⟩) (hrl : row.length = k) (hk0 : 0 < k) (hall : row.all cellOk = true) (hrows : ∀ q ∈ rows, q.length = k) (acc : AccT elem tl v rows) (hr : roomy (rows.length + 1) bytes = true)
    (kk : ∀ v' tl', AccT elem tl' v' (rows ++ [row]) → Goes X (.ops r false os :: st) ((d, true, v') :: l) (pre ++ tl') h0) :
    Goes X (.ops r false (⟨some d, .call ⟨.builtin .append, xs, ts⟩, ty, pos, aft, none⟩ :: os) :: st) l (pre ++ tl) h0 := by
  intro fr h hf ag hs
  have hjb := (hs.at_ hj).1
  have hfirst : firstV h k 1 (.slice (some ⟨bx, 0, none⟩) 1 cx) = some row := by
    unfold firstV
    rw [Nat.one_mul, Trie.nb (by omega : ¬ k = 0)]
    simp only [cond_false, elemAddr, cellsAt, Nat.zero_add, hjb]
    have : Nat.ble k row.length = true := Nat.ble_eq_true_of_le (by omega)
    rw [this]
    simp only [cond_true, List.drop_zero, Option.some.injEq]
    rw [← hrl, List.take_length]
  have hnew : newV X.E h elem k bytes false (.slice (some ⟨bx, 0, none⟩) 1 cx) = some (1, row) := by
    simp only [newV, cond_false, lenOfV, hfirst]
  have hbeq : Nat.beq row.length (1 * k) = true := by rw [hrl, Nat.one_mul]; exact Nat.beq_refl k
  rcases acc with ⟨h1, h2, h3⟩ | ⟨b, h1, h2⟩
  · subst h1 h2 h3
    have ho : opV X.E (run X.E 0) fr h (.call ⟨.builtin .append, xs, ts⟩) = some (.slice (some ⟨h.n, 0, some 0⟩) 1 1, h.alloc (.cells row elem)) := by
      simp only [opV, readV, writeV, hx fr ag rfl, appendV, ht, hu, hk, hby, hz, hzs, hnew, hbeq, cond_true, Nat.zero_add]
      have : Nat.ble 1 0 = false := rfl
      rw [this]
      simp only [cond_false, show roomy 1 bytes = true from hr, hzz, Bool.and_self, cond_true, growV]
      rfl
    refine step_op rfl ho (put_some hn _ _) ?_
    have hp : (⟨h.n, .cells row elem⟩ :: (pre ++ [])).Perm (pre ++ [⟨h.n, .cells row elem⟩]) := by
      rw [List.append_nil]; exact (List.perm_append_singleton _ _).symm
    exact kk _ [⟨h.n, .cells row elem⟩] (.inr ⟨h.n, rfl, by simp⟩) _ _ _ (ag.set d true _) ((hs.alloc (.cells row elem)).perm hp)
  · subst h1 h2
    have hi : (pre ++ [(⟨b, .cells rows.flatten elem⟩ : Blk)])[pre.length]? = some ⟨b, .cells rows.flatten elem⟩ := by simp
    obtain ⟨hb, hlim⟩ := hs.at_ hi
    have fl := flat_len hrows
    have ho : opV X.E (run X.E 0) fr h (.call ⟨.builtin .append, xs, ts⟩) = some (.slice (some ⟨h.n, 0, some 0⟩) (rows.length + 1) (rows.length + 1), (h.set b .dead).alloc (.cells (rows.flatten ++ row) elem)) := by
      simp only [opV, readV, writeV, hx fr ag rfl, appendV, ht, hu, hk, hby, hz, hzs, hnew, hbeq, cond_true]
      have : Nat.ble (rows.length + 1) rows.length = false := by
        cases e : Nat.ble (rows.length + 1) rows.length
        · rfl
        · exact absurd (Nat.le_of_ble_eq_true e) (by omega)
      rw [this]
      simp only [cond_false, hr, hzz, Bool.and_self, cond_true, growV, isSlack, hb]
      have q1 : Nat.ble h.lim b = true := Nat.ble_eq_true_of_le hlim
      have q2 : Nat.beq elem elem = true := Nat.beq_refl elem
      have q3 : Nat.ble (0 + rows.length * k) rows.flatten.length = true := Nat.ble_eq_true_of_le (by omega)
      simp only [q1, q2, q3, hall, Bool.and_self, cond_true, List.drop_zero, Option.some.injEq, Prod.mk.injEq, true_and]
      rw [← fl, List.take_length]
    refine step_op rfl ho (put_some hn _ _) ?_
    have hkill : Has pre h0 (h.set b .dead) hf := by
      have := hs.kill hi
      rwa [show (pre ++ [(⟨b, .cells rows.flatten elem⟩ : Blk)]).eraseIdx pre.length = pre by rw [List.eraseIdx_append_of_length_le (Nat.le_refl _)]; simp] at this
    have hp : (⟨h.n, .cells (rows.flatten ++ row) elem⟩ :: pre).Perm (pre ++ [⟨h.n, .cells (rows.flatten ++ row) elem⟩]) := (List.perm_append_singleton _ _).symm
    exact kk _ [⟨h.n, .cells (rows.flatten ++ row) elem⟩] (.inr ⟨h.n, by simp, by simp⟩) _ _ _ (ag.set d true _) ((hkill.alloc (.cells (rows.flatten ++ row) elem)).perm hp)

/-- What was appended, as a slice of rows, when its block is given to all else. -/
theorem acc_rows {elem k : Nat} {tl : List Blk} {v : Value} {rows : List (List Value)} (acc : AccT elem tl v rows) (hrows : ∀ q ∈ rows, q.length = k) {pre : List Blk}
    (kk : ∀ h1, HExt h0 h1 → Wf h1 → SLv h1 k v rows → Goes X st l pre h1) : Goes X st l (pre ++ tl) h0 := by
  rcases acc with ⟨h1, h2, h3⟩ | ⟨b, h1, h2⟩
  · subst h1 h2 h3
    rw [List.append_nil]
    exact Goes.fwd (fun h1 e w => kk h1 e w (SLv.nil _ _ _ _))
  · subst h1 h2
    have hi : (pre ++ [(⟨b, .cells rows.flatten elem⟩ : Blk)])[pre.length]? = some ⟨b, .cells rows.flatten elem⟩ := by simp
    refine go_pub pre.length hi (fun h1 e w hb => ?_)
    rw [show (pre ++ [(⟨b, .cells rows.flatten elem⟩ : Blk)]).eraseIdx pre.length = pre by rw [List.eraseIdx_append_of_length_le (Nat.le_refl _)]; simp]
    refine kk h1 e w ⟨_, _, rfl, fun i q hq => ?_⟩
    have hm := List.mem_of_getElem? hq
    refine ⟨hrows q hm, ⟨b, 0, some 0⟩, ⟨b, 0 + i * k, none⟩, rfl, rfl, ?_⟩
    unfold cellsAt
    dsimp only
    rw [hb]
    dsimp only
    have key : ∀ (rows : List (List Value)) (i : Nat), (∀ q ∈ rows, q.length = k) → rows[i]? = some q → i * k + k ≤ rows.flatten.length ∧ (rows.flatten.drop (i * k)).take k = q := by
      intro rows
      induction rows with
      | nil => intro i _ hq; simp at hq
      | cons x rows ih =>
        intro i hr hq
        have hx := hr x List.mem_cons_self
        cases i with
        | zero =>
          have : x = q := by simpa using hq
          subst this
          refine ⟨by rw [List.flatten_cons, List.length_append]; omega, ?_⟩
          rw [Nat.zero_mul, List.drop_zero, List.flatten_cons, ← hx, List.take_left']
          rfl
        | succ i =>
          obtain ⟨g1, g2⟩ := ih i (fun y hy => hr y (List.mem_cons_of_mem _ hy)) (by simpa using hq)
          refine ⟨by rw [List.flatten_cons, List.length_append, Nat.succ_mul]; omega, ?_⟩
          rw [List.flatten_cons, List.drop_append, List.drop_eq_nil_of_le (by rw [Nat.succ_mul]; omega), List.nil_append, show (i + 1) * k - x.length = i * k by rw [Nat.succ_mul]; omega]
          exact g2
    obtain ⟨g1, g2⟩ := key rows i hrows hq
    rw [Nat.zero_add, Nat.ble_eq_true_of_le g1, g2]
    rfl
end
end Go.Proofs.Ytadfhabapgipbaa.V
