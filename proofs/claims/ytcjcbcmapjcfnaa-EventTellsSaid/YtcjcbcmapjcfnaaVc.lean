/- A row's tail cleared; a row copied.
   No condition: these are laws of the clean machine. -/
import Derived.Test.YtcjcbcmapjcfnaaVk
namespace Go.Proofs.Ytcjcbcmapjcfnaa.V
open Go
set_option linter.unusedVariables false
set_option linter.unusedSimpArgs false

/-- A row's tail, of a place on, made nothing. -/
def clrL {α : Type} (z : α) (xs : List α) (i : Int) : Option (List α) := if 0 ≤ i ∧ i ≤ (xs.length : Int) then some (xs.take i.toNat ++ List.replicate (xs.length - i.toNat) z) else none
theorem clrL_some {α : Type} {z : α} {xs ys : List α} {i : Int} (h : clrL z xs i = some ys) : ∃ j : Nat, i = (j : Int) ∧ j ≤ xs.length ∧ ys = xs.take j ++ List.replicate (xs.length - j) z := by
  unfold clrL at h
  split at h
  · rename_i q
    cases h
    exact ⟨i.toNat, by omega, by omega, rfl⟩
  · cases h
theorem clrL_len {α : Type} {z : α} {xs ys : List α} {i : Int} (h : clrL z xs i = some ys) : ys.length = xs.length := by
  obtain ⟨j, _, hj, rfl⟩ := clrL_some h
  rw [List.length_append, List.length_take, List.length_replicate]; omega
theorem rep_flat {z : List Value} : ∀ n, (List.replicate n z).flatten = repZ z n
  | 0 => rfl
  | n + 1 => by rw [List.replicate_succ, List.flatten_cons, rep_flat n]; rfl
theorem clr_zero {E : Env} {h : Heap} {ts : Array TypeId} {sT elem c : Nat} {a : Option Addr} (ht : ts[0]? = some sT) (hu : E.P.underlying sT = some (.slice elem)) : clearV E h ts (.slice a 0 c) = some (.tuple #[], h) := by
  unfold clearV
  rw [ht]; dsimp only; rw [hu]; dsimp only
  cases a <;> rfl
section
variable {X : Cx} {st : List It} {l : L} {segs : List (List Blk)} {h0 : Heap}
variable {r : Array Oper} {os : List Oper} {ty ty2 : TypeId} {pos pos2 : String} {aft aft2 : Array Edge}
theorem g_clrtail {α : Type} {R : Rep α} {tl : List Blk} {xs ys : List α} {p : Option Addr} {x lo : Operand} {d1 : Nat} {d2 : Option Nat} {sT elem k : Nat} {i : Int} {ik : IntKind} {z : Value} {zx : α} {ts : Array TypeId}
    (acc : AccR R elem h0 tl (.slice p xs.length xs.length) xs) (hy : clrL zx xs i = some ys) (hn1 : Nat.blt d1 X.nt = true) (hn2 : ∀ e, d2 = some e → Nat.blt e X.nt = true)
    (hx : OP l true x (.slice p xs.length xs.length)) (hlo : OP l true lo (.int ik i)) (hu : X.E.P.underlying sT = some (.slice elem)) (hk : sz X.E.P elem = some k) (hkR : k = R.k) (hk0 : 0 < k)
    (hz : zeroOf X.E.P elem = some z) (hzz : z.cells.size = k) (hzo : z.cells.toList.all cellOk = true) (hzC : R.C h0 z.cells.toList zx) (ht : ts[0]? = some sT)
    (kk : ∀ v1 tl', AccR R elem h0 tl' (.slice p ys.length ys.length) ys → Goes X (.ops r false os :: st) (putL d2 (.tuple #[]) ((d1, true, v1) :: l)) (tl' :: segs).flatten h0) :
    Goes X (.ops r false (⟨some d1, .slice sT x (some lo) none none, ty, pos, aft, none⟩ :: ⟨d2, .call ⟨.builtin .clear, #[.tmp d1], ts⟩, ty2, pos2, aft2, none⟩ :: os) :: st) l (tl :: segs).flatten h0 := by
  obtain ⟨j, rfl, hj, rfl⟩ := clrL_some hy
  have hyl := clrL_len hy
  have same : j = xs.length → xs.take j ++ List.replicate (xs.length - j) zx = xs := fun e => by rw [e]; simp
  -- nothing is cleared
  have none_ : ∀ (v1 : Option Addr) (c1 : Nat), j = xs.length → (∀ h' hf, Has (tl :: segs).flatten h0 h' hf → sliceV X.E h' sT (.slice p xs.length xs.length) (some (.int ik (j : Int))) none none = some (.slice v1 0 c1)) →
      Goes X (.ops r false (⟨some d1, .slice sT x (some lo) none none, ty, pos, aft, none⟩ :: ⟨d2, .call ⟨.builtin .clear, #[.tmp d1], ts⟩, ty2, pos2, aft2, none⟩ :: os) :: st) l (tl :: segs).flatten h0 := by
    intro v1 c1 e hsl
    refine gr hn1 (r_sliceh hx (oo hlo) on on hsl) ?_
    have hkk := kk (.slice v1 0 c1) tl (by rw [same e]; exact acc)
    intro fr h hf ag hs
    have hop : opV X.E (run X.E 0) fr h (.call ⟨.builtin .clear, #[.tmp d1], ts⟩) = some (.tuple #[], h) :=
      opV_clear (x := .slice v1 0 c1) ((os1 (ot (by simp [lk, Nat.beq_refl])) os0) fr ag rfl) (clr_zero ht hu)
    cases d2 with
    | none => exact step_op rfl hop rfl (hkk _ _ _ ag hs)
    | some e => exact step_op rfl hop (put_some (hn2 e rfl) _ _) (hkk _ _ _ (ag.set e true _) hs)
  obtain ⟨hxl, ⟨g1, ⟨p0, g2, hp0⟩, g3⟩ | ⟨b, rows, g1, g2, g3⟩⟩ := acc
  · subst g1
    have hq : p = p0 := by simpa using g2
    subst hq g3
    have hj0 : j = 0 := by simpa using hj
    subst hj0
    cases p with
    | none => exact none_ none 0 rfl (fun h' hf hs => by unfold sliceV; rw [hu]; simp [boundV, hk])
    | some a =>
      obtain ⟨b, o, sp⟩ := a
      have := hp0 _ rfl
      dsimp only at this
      subst this
      exact none_ (some ⟨b, o, none⟩) 0 rfl (fun h' hf hs => sl_any (lo := 0) (hi := 0) hu hk rfl rfl (Nat.le_refl _) rfl rfl)
  · have hq : p = some ⟨b, 0, some 0⟩ := by simpa using g1
    subst hq g2
    rcases Nat.lt_or_ge j xs.length with q | q
    · -- some are
      have hrk : ∀ rw ∈ rows, rw.length = R.k := fun rw h => by
        obtain ⟨i, hi⟩ := List.mem_iff_getElem?.mp h
        have hil : i < xs.length := by rw [← g3.len]; exact (List.getElem?_eq_some_iff.mp hi).1
        exact R.len (g3.C i rw xs[i] hi (List.getElem?_eq_getElem hil))
      have hfl := flat_len hrk
      refine gr (v := .slice (some ⟨b, j * k, some 0⟩) (xs.length - j) (xs.length - j)) hn1 (r_sliceh hx (oo hlo) on on (fun h' hf hs => by
        have := sl_any (E := X.E) (t := sT) (k := k) (len := xs.length) (c := xs.length) (lo := j) (hi := xs.length) (a := ⟨b, 0, some 0⟩) (a' := ⟨b, 0 + j * k, some 0⟩) (o1 := some (.int ik (j : Int))) (o2 := none) hu hk rfl (bound_some hj) (Nat.le_refl _) (slack_own (hs.blk ⟨b, .cells rows.flatten elem⟩ (by simp)).1) (sa_slack q)
        rw [Nat.zero_add] at this; exact this)) ?_
      let rows' := rows.take j ++ List.replicate (xs.length - j) z.cells.toList
      have hcells : splice rows.flatten (j * k) (repZ z.cells.toList (xs.length - j)) = rows'.flatten := by
        have e1 : rows.flatten = (rows.take j).flatten ++ (rows.drop j).flatten := by rw [← List.flatten_append, List.take_append_drop]
        have hl1 : (rows.take j).flatten.length = j * k := by
          rw [flat_len (k := R.k) (fun r hr => hrk r (List.mem_of_mem_take hr)), List.length_take, g3.len, hkR, Nat.min_eq_left hj]
        unfold splice
        rw [e1, List.take_left' hl1, List.drop_of_length_le (by
          rw [← e1, hfl, repZ_len, show z.cells.toList.length = k from by rw [← hzz]; rfl, g3.len, ← hkR, ← Nat.add_mul]; exact Nat.mul_le_mul_right k (by omega)), List.append_nil]
        show _ = (rows.take j ++ List.replicate (xs.length - j) z.cells.toList).flatten
        rw [List.flatten_append, rep_flat]
      have hR' : Rws R h0 rows' (xs.take j ++ List.replicate (xs.length - j) zx) := by
        refine ⟨?_, fun i row x hr hx => ?_⟩
        · show (rows.take j ++ List.replicate _ _).length = _
          rw [List.length_append, List.length_append, List.length_take, List.length_take, List.length_replicate, List.length_replicate, g3.len]
        · have hr : (rows.take j ++ List.replicate (xs.length - j) z.cells.toList)[i]? = some row := hr
          rcases Nat.lt_or_ge i j with w | w
          · rw [List.getElem?_append_left (by rw [List.length_take, g3.len]; omega), List.getElem?_take, if_pos w] at hr
            rw [List.getElem?_append_left (by rw [List.length_take]; omega), List.getElem?_take, if_pos w] at hx
            exact g3.C i row x hr hx
          · rw [List.getElem?_append_right (by rw [List.length_take, g3.len]; omega), List.getElem?_replicate] at hr
            rw [List.getElem?_append_right (by rw [List.length_take]; omega), List.getElem?_replicate] at hx
            split at hr
            · split at hx
              · cases hr; cases hx; exact hzC
              · cases hx
            · cases hr
      have hkk := kk (.slice (some ⟨b, j * k, some 0⟩) (xs.length - j) (xs.length - j)) [⟨b, .cells rows'.flatten elem⟩] ⟨by rw [hyl]; exact hxl, .inr ⟨b, rows', by rw [hyl], rfl, hR'⟩⟩
      refine g_wr (b := b) (o := .cells rows.flatten elem) (o' := .cells rows'.flatten elem) (rest := segs.flatten) hn2 (fun fr h hf ag hs => ?_) hkk
      obtain ⟨hb, hlim⟩ := hs.blk ⟨b, .cells rows.flatten elem⟩ List.mem_cons_self
      have hcl := clear_own (E := X.E) (h := h) (ts := ts) (sT := sT) (elem := elem) (k := k) (n := xs.length - j) (c := xs.length - j) (b := b) (o := j * k) (sp := some 0) (.inr rfl) ht hu hz hzz (by omega) hb hlim (by
        rw [hfl, g3.len, ← hkR, ← Nat.add_mul]; exact Nat.mul_le_mul_right k (by omega)) hzo
      rw [hcells] at hcl
      exact opV_clear (x := .slice (some ⟨b, j * k, some 0⟩) (xs.length - j) (xs.length - j)) ((os1 (ot (by simp [lk, Nat.beq_refl])) os0) fr ag rfl) hcl
    · have e : j = xs.length := by omega
      refine none_ (some ⟨0, 0, some 2⟩) 0 e (fun h' hf hs => ?_)
      have := sl_any (E := X.E) (t := sT) (k := k) (len := xs.length) (c := xs.length) (lo := j) (hi := xs.length) (a := ⟨b, 0, some 0⟩) (a' := ⟨0, 0, some 2⟩) (o1 := some (.int ik (j : Int))) (o2 := none) hu hk rfl (bound_some hj) (Nat.le_refl _) (slack_own (hs.blk ⟨b, .cells rows.flatten elem⟩ (by simp)).1) (by
        unfold sliceAddr; dsimp only; rw [show Nat.beq xs.length j = true from by rw [e]; exact Nat.beq_refl _]; rfl)
      rw [show xs.length - j = 0 by omega] at this; exact this
end

/-! ### A copy of a row -/
def cloneL {α : Type} (B : Nat) (xs : List α) : Option (List α) := appL B ([] : List α) xs
theorem cloneL_some {α : Type} {B : Nat} {xs ys : List α} (h : cloneL B xs = some ys) : roomy (([] : List α).length + xs.length) B = true ∧ ys = xs := by
  obtain ⟨h1, h2⟩ := appL_some h
  exact ⟨h1, h2⟩
theorem RL.none_nil {α : Type} {R : Rep α} {h : Heap} {c : Nat} {xs : List α} (f : RL R h none c xs) : xs = [] := by
  cases xs with
  | nil => rfl
  | cons x r => obtain ⟨a0, _, _, e, _⟩ := f.2.2.1 0 x rfl; cases e
end Go.Proofs.Ytcjcbcmapjcfnaa.V
