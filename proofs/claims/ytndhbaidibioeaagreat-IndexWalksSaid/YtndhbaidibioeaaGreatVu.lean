/- Calls that write what they are handed of this call's own; calls that look at it. .. and what follows it, in one text.
   No condition beyond those that each part names. -/
import Derived.Test.YtndhbaidibioeaaGreatV31
import Derived.Test.YtndhbaidibioeaaGreatVs
/-! ## Calls that write what they are handed of this call's own; calls that look at it. -/
namespace Go.Proofs.YtndhbaidibioeaaGreat.V
open Go
set_option linter.unusedVariables false
set_option linter.unusedSimpArgs false
set_option linter.unusedSectionVars false

theorem run_prim {E : Env} {g : FuncId} {p : List Value → Heap → Option (Value × Heap)} (hp : E.prim g = some p) (n : Nat) (args : List Value) (h : Heap) : run E (n + 1) g args h = p args h := by
  simp only [run, hp]
theorem known_evp {E : Env} {g : FuncId} {v : Value} (hp : E.prim g = some (known v)) (h : Heap) (hw : Wf h) : Ev E g [] h (fun w _ => w = v) :=
  ⟨1, v, h, by rw [run_prim hp]; rfl, HExt.refl h, rfl⟩

/-- A block that was given away is one's own again. -/
theorem Has.reown {own : List Blk} {b : Nat} {o : O} {h0 h1 hf1 : Heap} (m : Has own h0 h1 hf1) (hb : hf1.get b = some o) (ho : o ≠ .dead) (hnb : inOwn own b = false) (hlim : hf1.lim ≤ b)
    (h0b : ∀ o', h0.get b = some o' → o' = .dead) : Has (⟨b, o⟩ :: own) h0 h1 (hf1.set b .dead) := by
  have hlt := m.wf.lt b o hb
  have wf' : Wf (hf1.set b .dead) := by
    refine ⟨fun x o' hx => ?_, m.wf.lim⟩
    rw [get_set] at hx
    split at hx
    · rename_i q; subst q; exact hlt
    · exact m.wf.lt x o' hx
  refine ⟨⟨m.ext.base, m.ext.lim, m.ext.n, fun x o' hx ho' => ?_, fun _ => wf'⟩, wf', ⟨m.msk.base, m.msk.lim, m.msk.n, fun x hx => ?_, fun x hx => ?_, fun x hx => ?_⟩, ?_, ?_⟩
  · rw [get_set]
    split
    · rename_i q; subst q; exact absurd (h0b o' hx) ho'
    · exact m.ext.get x o' hx ho'
  · rw [get_set]
    split
    · rfl
    · rename_i q
      rw [Has.io_cons, Trie.nb q, Bool.false_or] at hx
      exact m.msk.dead x hx
  · rw [Has.io_cons, Bool.or_eq_false_iff] at hx
    have q : ¬ b = x := by intro e; subst e; have := hx.1; rw [Nat.beq_refl] at this; cases this
    rw [get_set, if_neg q]; exact m.msk.get x hx.2
  · rw [Has.io_cons, Bool.or_eq_true] at hx
    rcases hx with q | q
    · have := Nat.eq_of_beq_eq_true q; subst this; exact hlt
    · exact m.msk.lt x q
  · intro e he
    rcases List.mem_cons.mp he with q | q
    · subst q; exact ⟨by rw [m.msk.get b hnb]; exact hb, by rw [m.msk.lim]; exact hlim⟩
    · exact m.blk e q
  · rw [List.map_cons, List.nodup_cons]
    refine ⟨fun hm => ?_, m.nd⟩
    obtain ⟨e, he, hbe⟩ := List.mem_map.mp hm
    have := inOwn_iff.mpr ⟨e, he, hbe⟩
    rw [hnb] at this; cases this

theorem AccR.rl {α : Type} {R : Rep α} {elem : TypeId} {h : Heap} {b : Nat} {rows : List (List Value)} {xs : List α} (hl : xs.length < 9223372036854775808) (hT : elem = R.T) (hb : h.get b = some (.cells rows.flatten elem)) (s : Rws R h rows xs) :
    RL R h (some ⟨b, 0, some 0⟩) xs.length xs := RL.of_blk (.inr rfl) hb rfl s hl (Nat.le_refl _) hT

section
variable {X : Cx} {st : List It} {l : L} {h0 : Heap} {segs : List (List Blk)}
variable {r : Array Oper} {os : List Oper} {d : Nat} {ty : TypeId} {pos : String} {aft : Array Edge}
/-- A call that looks at what grows, and changes nothing. -/
theorem gs_callb {α : Type} {R : Rep α} {elem : TypeId} {tl : List Blk} {p : Option Addr} {ys : List α} {segs' : List (List Blk)} {f : Operand} {xs : Array Operand} {ts : Array TypeId} {gf : FuncId} {fi ca : Array Value} {vs : List Value} {v : Value}
    (hF : FramedE X.E) (hn : Nat.blt d X.nt = true) (hg : DelSeg tl segs segs') (acc : AccR R elem h0 tl (.slice p ys.length ys.length) ys) (hT : elem = R.T)
    (hf' : OP l true f (.func (.func gf) fi ca)) (hx : OPs l true xs.toList vs) (hb : hasBody X.E.P gf = true)
    (hs : ∀ hf, Kn h0 hf → Wf hf → RL R hf p ys.length ys → Ev X.E gf (fi.toList ++ (vs ++ ca.toList)) hf (fun w _ => w = v))
    (kk : Goes X (.ops r false os :: st) ((d, true, v) :: l) segs.flatten h0) : Goes X (.ops r false (⟨some d, .call ⟨.value f, xs, ts⟩, ty, pos, aft, none⟩ :: os) :: st) l segs.flatten h0 := by
  obtain ⟨pre, post, rfl, rfl⟩ := hg.pp
  obtain ⟨hxl, ⟨h1, ⟨p0, h2, hp0⟩, h3⟩ | ⟨b, rows, h1, h2, h3⟩⟩ := acc
  · subst h1 h3
    have hp : p = p0 := by simpa using h2
    subst hp
    exact g_callp hF hn hf' hx hb (fun h => by cases h) (fun hf kn w => hs hf kn w ⟨by simp, Nat.zero_le _, fun i x hx => by simp at hx, fun a0 e1 e2 => by rw [hp0 a0 e1] at e2; cases e2⟩) kk
  · have hp : p = some ⟨b, 0, some 0⟩ := by simpa using h1
    subst hp h2
    refine go_perm (pf pre post _) ?_
    have kk := go_perm (pf pre post [⟨b, .cells rows.flatten elem⟩]).symm kk
    intro fr h hf ag hs'
    have hd : hf.get b = some .dead := hs'.msk.dead b (inOwn_iff.mpr ⟨_, List.mem_cons_self, rfl⟩)
    have hlim : hf.lim ≤ b := by have := (hs'.blk _ List.mem_cons_self).2; rw [hs'.msk.lim] at this; exact this
    have nd := hs'.nd
    have hnb : inOwn (pre ++ post).flatten b = false := by
      cases q : inOwn (pre ++ post).flatten b with
      | false => rfl
      | true =>
        obtain ⟨e, he, hbe⟩ := inOwn_iff.mp q
        have nd' : (b :: ((pre ++ post).flatten.map Blk.b)).Nodup := nd
        rw [List.nodup_cons] at nd'
        exact absurd (List.mem_map.mpr ⟨e, he, hbe⟩) nd'.1
    have hs2 : Has (⟨b, .cells rows.flatten elem⟩ :: (pre ++ post).flatten) h0 h hf := hs'
    have hpub := hs2.pubH
    have hget : (hf.set b (.cells rows.flatten elem)).get b = some (.cells rows.flatten elem) := by rw [get_set, if_pos rfl]
    obtain ⟨n, v', hf1, hr, he, hq⟩ := hs _ hpub.ext.kn hpub.wf (AccR.rl hxl hT hget (h3.ext hpub.ext.kn))
    subst hq
    obtain ⟨h1, hr1, m1, k1⟩ := run_msk hF n (inOwn (pre ++ post).flatten) _ h gf _ v' hf1 hpub.msk hr
    have hw1 := he.wf hpub.wf
    have ho : opV X.E (run X.E n) fr h (.call ⟨.value f, xs, ts⟩) = some (v', h1) := by
      simp only [opV, readV, writeV, calleeV, hf' fr ag rfl, hx fr ag rfl, hb, cond_true]
      exact hr1
    have hl : h1.lim = h.lim := by rw [m1.lim, he.lim, hpub.msk.lim]
    have hh := hpub.keep k1 m1 (hpub.ext.trans he) hw1 hl
    have hb1 := he.get _ _ hget (by intro q; cases q)
    have hh2 := hh.reown hb1 (by intro q; cases q) hnb (by rw [he.lim]; exact hlim) (fun o' ho' => by
      cases o' with
      | dead => rfl
      | cells c T => have := hs'.ext.get _ _ ho' (by intro q; cases q); rw [hd] at this; cases this
      | map es => have := hs'.ext.get _ _ ho' (by intro q; cases q); rw [hd] at this; cases this)
    exact step_op rfl ho (put_some hn _ _) (kk _ _ _ (ag.set d true v') hh2)
end

/-! ### Calls that are told -/
section
variable {α β : Type} [Inhabited α] {enc : α → Value} {dec : Value → Option α} {enc' : β → Value} {conv : β → α} {back : α → β}
end

/-! ### .. of texts and whole numbers -/
/-! ### Room, ahead of what is appended -/
section
variable {X : Cx} {st : List It} {l : L} {own : List Blk} {h0 : Heap}
variable {r : Array Oper} {os : List Oper} {d : Nat} {ty : TypeId} {pos : String} {aft : Array Edge}
end
end Go.Proofs.YtndhbaidibioeaaGreat.V

/-! ## Elements of what grows, read and written where they lie. -/
namespace Go.Proofs.YtndhbaidibioeaaGreat.V
open Go
set_option linter.unusedVariables false
set_option linter.unusedSimpArgs false

theorem setI_len {α : Type} (xs : List α) (i : Int) (x : α) : (setI xs i x).length = xs.length := by unfold setI; exact List.length_set
theorem acc_cell {cs row : List Value} {o k j : Nat} {v : Value} (h : (cs.drop o).take k = row) (hv : row[j]? = some v) : cs[o + j]? = some v := by
  rw [← h, List.getElem?_take] at hv
  split at hv
  · rw [List.getElem?_drop] at hv; exact hv
  · cases hv
theorem acc_ble {n o k j m : Nat} (h : o + k ≤ n) (hm : j + m ≤ k) : Nat.ble (o + j + m) n = true := Nat.ble_eq_true_of_le (by omega)

theorem flat_splice_part {k : Nat} {vs row : List Value} {j : Nat} : ∀ (rows : List (List Value)) (i : Nat), (∀ r ∈ rows, r.length = k) → rows[i]? = some row → j + vs.length ≤ k → splice rows.flatten (i * k + j) vs = (rows.set i (splice row j vs)).flatten := by
  intro rows
  induction rows with
  | nil => intro i _ hi; simp at hi
  | cons x rows ih =>
    intro i hr hi hj
    have hx := hr x List.mem_cons_self
    cases i with
    | zero =>
      have : x = row := by simpa using hi
      subst this
      unfold splice
      rw [Nat.zero_mul, Nat.zero_add, List.set_cons_zero, List.flatten_cons, List.flatten_cons, List.take_append_of_le_length (by omega), List.drop_append_of_le_length (by omega)]
      simp only [List.append_assoc]
    | succ i =>
      have h1 := ih i (fun y hy => hr y (List.mem_cons_of_mem _ hy)) (by simpa using hi) hj
      unfold splice at h1 ⊢
      rw [List.set_cons_succ, List.flatten_cons, List.flatten_cons]
      rw [show (rows.set i (row.take j ++ (vs ++ row.drop (j + vs.length)))).flatten = _ from h1.symm]
      rw [Nat.succ_mul, show i * k + k + j = x.length + (i * k + j) by omega, List.take_length_add_append, show x.length + (i * k + j) + vs.length = x.length + (i * k + j + vs.length) by omega, List.drop_length_add_append, List.append_assoc]

theorem AccR.set_ {α : Type} {R : Rep α} {elem : TypeId} {h : Heap} {b n : Nat} {rows : List (List Value)} {xs : List α} {i : Int} {x : α} {row : List Value} (hl : xs.length < 9223372036854775808) (s : Rws R h rows xs) (hn : n = i.toNat) (c : R.C h row x) :
    AccR R elem h [⟨b, .cells (rows.set n row).flatten elem⟩] (.slice (some ⟨b, 0, some 0⟩) (setI xs i x).length (setI xs i x).length) (setI xs i x) := by
  subst hn
  exact ⟨by rw [setI_len]; exact hl, .inr ⟨b, rows.set i.toNat row, rfl, rfl, s.set c i.toNat⟩⟩
/-- A row that was written, at its place. -/
theorem flat_at_set {k i : Nat} {row' : List Value} {rows : List (List Value)} (hr : ∀ r ∈ rows, r.length = k) (hi : i < rows.length) (hl : row'.length = k) :
    ((rows.set i row').flatten.drop (i * k)).take k = row' ∧ i * k + k ≤ (rows.set i row').flatten.length := by
  have h1 : ∀ r ∈ rows.set i row', r.length = k := by
    intro r hm
    rcases List.mem_or_eq_of_mem_set hm with q | q
    · exact hr r q
    · subst q; exact hl
  obtain ⟨g1, g2⟩ := flat_at (rows.set i row') i h1 (by rw [List.getElem?_set_self hi])
  exact ⟨g2, g1⟩
section
variable {X : Cx} {st : List It} {l : L} {h0 : Heap} {segs : List (List Blk)}
/-- A call's own blocks, told otherwise. -/
theorem gs_retell {segs' : List (List Blk)} (e : segs = segs') (k : Goes X st l segs'.flatten h0) : Goes X st l segs.flatten h0 := by subst e; exact k
end
/-- The element's place, and what lies there. -/
theorem AccR.at_ {α : Type} {R : Rep α} {elem : TypeId} {h : Heap} {tl : List Blk} {p : Option Addr} {xs : List α} (a : AccR R elem h tl (.slice p xs.length xs.length) xs) {i : Int} {x : α} (hx : getI xs i = some x) :
    ∃ b rows row, p = some ⟨b, 0, some 0⟩ ∧ tl = [⟨b, .cells rows.flatten elem⟩] ∧ Rws R h rows xs ∧ rows[i.toNat]? = some row ∧ R.C h row x ∧ 0 ≤ i ∧ i < (xs.length : Int) ∧ (rows.flatten.drop (i.toNat * R.k)).take R.k = row ∧ i.toNat * R.k + R.k ≤ rows.flatten.length ∧ xs.length < 9223372036854775808 := by
  obtain ⟨b, rows, row, h1, h2, h3, h4, h5, h6, h7, _, h8, h9⟩ := a.open hx
  exact ⟨b, rows, row, h1, h2, h3, h4, h5, h6, h7, h8, h9, a.1⟩
end Go.Proofs.YtndhbaidibioeaaGreat.V
