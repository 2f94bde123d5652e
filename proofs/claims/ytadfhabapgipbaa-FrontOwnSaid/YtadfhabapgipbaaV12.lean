/- Every writing operation of the clean machine does what the model's does (all of them).
   Conditions: it goes through, and heap and frame stand as V2 says. -/
import Derived.Test.YtadfhabapgipbaaV11
namespace Go.Proofs.Ytadfhabapgipbaa.V
open Go
set_option linter.unusedVariables false
set_option linter.unusedSimpArgs false

theorem first_size {P : Program} {Wr : Nat → Prop} {β : Inj} {hp : Heap} {w : World} (S : Sim P Wr β hp w) {k n : Nat} {a : Option Addr} {l cap : Nat} {x' : Value} {c : List Value} (h : firstV hp k n (.slice a l cap) = some c) : c.length = n * k ∨ a = none := by
  unfold firstV at h
  cases a with
  | none => exact .inr rfl
  | some a =>
    left
    simp only at h
    cases hq : Nat.beq (n * k) 0 with
    | true => rw [hq] at h; simp at h; subst h; simp [Nat.eq_of_beq_eq_true hq]
    | false =>
      rw [hq] at h; simp only [cond_false] at h
      split at h
      · rename_i b hb
        have : ∀ (b : Addr) (m : Nat) (l : List Value), cellsAt hp b m = some l → l.length = m := by
          intro b m l hl
          unfold cellsAt at hl
          split at hl
          · split at hl
            · obtain ⟨hq, hl⟩ := bif_some hl
              have := Nat.le_of_ble_eq_true hq
              cases hl; simp; omega
            · cases hl
          · have : ∀ (m o : Nat) (l : List Value), baseCells hp b.block o m = some l → l.length = m := by
              intro m
              induction m with
              | zero => intro o l h; simp [baseCells] at h; subst h; rfl
              | succ m ih =>
                intro o l h
                simp only [baseCells] at h
                split at h
                · split at h
                  · rename_i r hr; cases h; simp [ih _ _ hr]
                  · cases h
                · cases h
            exact this _ _ _ hl
          · cases hl
        exact this _ _ _ h
      · cases h

theorem slice_len {β : Inj} {a : Option Addr} {l c l' : Nat} {v : Value} (h : VR β (.slice a l c) v) (hl : l' ≤ c) : ∃ a' c', v = .slice a' l c' ∧ c ≤ c' ∧ VR β (.slice a l' c) (.slice a' l' c') := by
  cases h with
  | sliceNil => exact ⟨_, _, rfl, Nat.le_refl _, .sliceNil _ _⟩
  | slice h => exact ⟨_, _, rfl, Nat.le_refl _, .slice h _ _⟩
  | slack h _ hc hn => exact ⟨_, _, rfl, hc, .slack h _ hc hn⟩
  | opq a' c' => have : l' = 0 := by omega
                 subst this; exact ⟨_, _, rfl, Nat.zero_le _, .opq _ _⟩

theorem put_ok {P : Program} {Wr : Nat → Prop} {β : Inj} {hp hp' : Heap} {w : World} (S : Sim P Wr β hp w) {base : Option Addr} {len cap n k : Nat} {new new' : List Value} {v : Value} (hv : VRs β new new') (hl : new.length = n * k)
    {base' : Option Addr} {cap' : Nat} (hs : VR β (.slice base len cap) (.slice base' len cap')) (h : putV hp base len cap n k new = some (v, hp')) :
    v = .slice base (len + n) cap ∧ ∃ w', (match (generalizing := false) base' with | some a => Go.storeCells (a.add (len * k)) new' | none => pure () : Sem Unit).run P w = .ok () w' ∧ Sim P Wr β hp' w' ∧ FrameW Wr w w' ∧ Lm hp hp' := by
  unfold putV at h
  cases hq : Nat.beq (n * k) 0 with
  | true =>
    rw [hq] at h; simp at h
    obtain ⟨rfl, rfl⟩ := h
    have hq : n * k = 0 := Nat.eq_of_beq_eq_true hq
    have : new' = [] := by have := hv.len; rw [hl, hq] at this; exact List.eq_nil_of_length_eq_zero this.symm
    subst this
    refine ⟨rfl, w, ?_, S, FrameW.refl _ _, Lm.refl _⟩
    cases base' <;> rfl
  | false =>
    rw [hq] at h; simp only [cond_false] at h
    split at h
    · cases h
    · rename_i a
      split at h
      · cases h
      · rename_i b hb
        split at h
        · rename_i h' hst
          cases h
          obtain ⟨a', c', e, hA⟩ := sliceAt_ok hs hb
          cases e
          obtain ⟨w', h1, h2, h3, h4, h5⟩ := storeCells_ok S hA hv hst
          exact ⟨rfl, w', h1, h2, h3, Lm.of h4 h5⟩
        · cases h

theorem all_one {β : Inj} {vs vs' : List Value} (hv : VRs β vs vs') (hone : vs.all cellOk = true) : ∀ v ∈ vs', v.oneCell' = true := by
  intro v hm
  obtain ⟨i, hi⟩ := List.mem_iff_getElem?.1 hm
  rcases hu : vs[i]? with _ | u
  · rw [hv.get' i hu] at hi; cases hi
  · obtain ⟨v', q1, q2⟩ := hv.get i hu
    rw [hi] at q1; cases q1
    exact cellOk_one q2 (List.all_eq_true.1 hone u (List.mem_iff_getElem?.2 ⟨i, hu⟩))

theorem zeroCells_size (z : Array Value) (n : Nat) : (Builtin.zeroCells z n).size = n * z.size := by simp [Builtin.zeroCells]

theorem bytes_info {P : Program} {t b : Nat} (hb : bytesOf P t = some b) : ∃ i, P.info? t = some i ∧ i.bytes = b := by
  unfold bytesOf at hb; split at hb
  · rename_i i hi; cases hb; exact ⟨i, hi, rfl⟩
  · cases hb

/-- A new row, with more behind it. -/
theorem grown_ok {P : Program} {Wr : Nat → Prop} {β : Inj} {hp : Heap} {w w' : World} (S : Sim P Wr β hp w) {c : List Value} {C R : Array Value} {elem k m cap' : Nat} (hk : P.cellsOf elem = k) (hc : VRs β c C.toList) (hC : C.size = m * k) (hR : R.size = (cap' - m) * k) (hm : m ≤ cap')
    (hw : w'.heap = w.heap.push (.cells (C ++ R) elem)) (h1 : w'.os = w.os) (h2 : w'.tape = w.tape) (h3 : w'.output = w.output) :
    ∃ β', Up hp.n β β' ∧ Sim P Wr β' (hp.alloc (.cells c elem)) w' ∧ FrameW Wr w w' ∧ VR β' (.slice (some ⟨hp.n, 0, some 0⟩) m m) (.slice (some ⟨w.heap.size, 0, none⟩) m cap') := by
  have hl := hc.len
  obtain ⟨β', g1, g2, g3, g4⟩ := S.alloc (c := c) (C := C ++ R) (T := elem) (w' := w') (by simp at hl ⊢; omega)
    (fun i v hv => by
      obtain ⟨v', e1, e2⟩ := hc.get i hv
      refine ⟨v', ?_, e2⟩
      have hi : i < C.size := by
        rcases Nat.lt_or_ge i C.size with q | q
        · exact q
        · rw [List.getElem?_eq_none (by simpa using q)] at e1; cases e1
      rw [Array.getElem?_append_left hi, ← Array.getElem?_toList]; exact e1) hw h1 h2 h3
  refine ⟨β', g1, g3, g4, ?_⟩
  have := VR.slack (o := 0) g2 m (c := m) (c' := cap') hm (by
    simp only [hk, Array.size_append, hC, hR]
    rw [← Nat.add_mul]
    have : m + (cap' - m) = cap' := by omega
    rw [this]; omega)
  simpa using this

theorem appendV_ok {E : Env} {Wr : Nat → Prop} {β : Inj} {hp hp' : Heap} {w : World} (S : Sim E.P Wr β hp w) {ts : Array TypeId} {T : TypeId} {s x s' x' v : Value} (hs : VR β s s') (hx : VR β x x') (h : appendV E hp ts s x = some (v, hp')) :
    WOut E.P Wr β hp w hp' v (Builtin.append_ ts T #[s', x']) := by
  unfold appendV at h
  split at h
  · cases h
  · rename_i sT h0
    split at h
    · rename_i elem hu
      split at h
      · rename_i k bytes z zeros hk hb hz hzs
        split at h
        · rename_i base len cap
          split at h
          · cases h
          · rename_i n new hnew
            obtain ⟨hnl, h⟩ := bif_some h
            have hnl : new.length = n * k := Nat.eq_of_beq_eq_true hnl
            obtain ⟨i, hi, rfl⟩ := bytes_info hb
            obtain ⟨new', hv, hn, q1, q2⟩ := new_ok S hx hnew
            have hnl' : new'.size = n * k := by have := hv.len; simp at this; omega
            cases hfit : Nat.ble (len + n) cap with
            | true =>
              rw [hfit] at h; simp only [cond_true] at h
              have hfit : len + n ≤ cap := Nat.le_of_ble_eq_true hfit
              obtain ⟨base', cap', rfl, hcc, hs2⟩ := slice_len hs hfit
              obtain ⟨rfl, w', g1, g2, g3, g4⟩ := put_ok S hv hnl hs h
              refine ⟨β, w', _, Up.refl _ β, g2, hs2, g3, g4, ?_⟩
              exact append_in h0 hu hk hzs hi q1 q2 hn (by omega) (by cases base' <;> exact g1)
            | false =>
              rw [hfit] at h; simp only [cond_false] at h
              obtain ⟨hr, h⟩ := bif_some h
              have hfit : ¬ len + n ≤ cap := by intro q; rw [Nat.ble_eq_true_of_le q] at hfit; cases hfit
              rw [Bool.and_eq_true] at hr
              obtain ⟨hr, hzk⟩ := hr
              have hzk : z.cells.size = k := Nat.eq_of_beq_eq_true hzk
              unfold roomy at hr
              rw [Bool.and_eq_true] at hr
              have hr1 := Nat.le_of_ble_eq_true hr.1
              have hr2 : 0 < i.bytes := by have := hr.2; rwa [Nat.blt_eq] at this
              have hzv : ∀ w, (zeroValue elem).run E.P w = .ok z w := fun w => (r_zero hz).1
              have hck := sz_cells hk
              cases base with
              | none =>
                simp only [growV] at h
                obtain ⟨hl0, h⟩ := bif_some h
                have hl0 : len = 0 := Nat.eq_of_beq_eq_true hl0
                subst hl0
                cases h
                cases hs
                obtain ⟨newCap, dr, e1, e2⟩ := append_out (T := T) h0 hu hk hzs hi q1 q2 hn (old := #[]) (fun w' _ => rfl) hzv (cap := cap) (base := none) (len := 0) (by omega) hr2 hr1
                obtain ⟨β', f1, f2, f3, f4⟩ := grown_ok S (w' := { w with drawn := dr, heap := w.heap.push (.cells (#[] ++ new' ++ Builtin.zeroCells z.cells (newCap - (0 + n))) elem) }) (C := new') (R := Builtin.zeroCells z.cells (newCap - (0 + n))) (m := 0 + n) (cap' := newCap) hck hv (by rw [hnl']; simp) (by rw [zeroCells_size, hzk]) e1 (by simp) rfl rfl rfl
                exact ⟨β', _, _, f1, f2, f4, f3, ⟨rfl, Nat.le_succ _⟩, e2⟩
              | some a =>
                simp only [growV] at h
                cases hsl : isSlack a with
                | true =>
                  rw [hsl] at h; simp only [cond_true] at h
                  obtain ⟨ab, ao, asp⟩ := a
                  have : asp = some 0 := by unfold isSlack at hsl; split at hsl <;> simp_all
                  subst this
                  cases hs with
                  | slice hA => cases hA
                  | @slack b o B s N k' hβ l c c' hcc hnn =>
                    split at h
                    · rename_i c T' hg
                      obtain ⟨hq, h⟩ := bif_some h
                      rw [Bool.and_eq_true, Bool.and_eq_true, Bool.and_eq_true] at hq
                      obtain ⟨⟨⟨hlim, hT⟩, hoff⟩, hone⟩ := hq
                      have hlim : hp.lim ≤ ab := Nat.le_of_ble_eq_true hlim
                      have hT : T' = elem := Nat.eq_of_beq_eq_true hT
                      have hoff : ao + len * k ≤ c.length := Nat.le_of_ble_eq_true hoff
                      subst hT
                      cases h
                      obtain ⟨B', s', C, fr, g1, g2, g3, g4, g5⟩ := S.live _ _ _ hg
                      rw [hβ] at g1; cases g1
                      rw [hck] at hnn
                      have alv : alive hp ab := ⟨_, hg, by simp⟩
                      have S1 := S.kill alv
                      have holdc : cellsAt hp ⟨ab, ao, none⟩ (len * k) = some ((c.drop ao).take (len * k)) := by
                        simp only [cellsAt, hg]
                        rw [Nat.ble_eq_true_of_le hoff]; rfl
                      obtain ⟨old', o1, o2, o3⟩ := cellsAt_ok S (.new hβ) holdc
                      by_cases hin : len + n ≤ c'
                      · -- the model has room
                        have hmul : (len + n) * k ≤ c' * k := Nat.mul_le_mul_right k hin
                        rw [Nat.add_mul] at hmul
                        obtain ⟨C', r1, r2⟩ := store_run (P := E.P) (o := s + ao + len * k) new'.toList 0 C w g2 g3 (by simp; omega) (all_one hv hone)
                        have esz : C'.size = C.size := by
                          have := congrArg List.length r2
                          rw [splice_len _ _ _ (by simp; omega)] at this; simpa using this
                        have free : ∀ b' x', alive (hp.set ab .dead) b' → β b' = some x' → x'.B ≠ B := by
                          intro b' x' a' hb'
                          rcases alive_set a' with ⟨_, hd⟩ | ⟨n1, a1⟩
                          · exact (hd rfl).elim
                          · exact S.inj b' ab x' _ a1 alv hb' hβ n1
                        have hW : Wr B := S.wr ab _ alv hlim hβ
                        have S2 := S1.scribble (w' := { w with heap := w.heap.setIfInBounds B (.cells C' T' fr) }) free hW (by simp) (fun k hk => by simp only; rw [Array.getElem?_setIfInBounds, if_neg (fun e => hk e.symm)])
                        have hcont : ∀ (i : Nat) (v : Value), (((c.drop ao).take (len * k)) ++ new)[i]? = some v → ∃ v', C'[(s + ao) + i]? = some v' ∧ VR β v v' := by
                          intro j u hu'
                          rw [← Array.getElem?_toList, r2, splice_get _ _ _ (by simp; omega)]
                          by_cases hj : j < len * k
                          · rw [List.getElem?_append_left (by simp; omega), List.getElem?_take, if_pos hj, List.getElem?_drop] at hu'
                            rw [if_neg (by omega)]
                            obtain ⟨u', t1, t2⟩ := g5 _ _ hu'
                            exact ⟨u', by rw [Array.getElem?_toList, ← t1]; congr 1; omega, t2⟩
                          · rw [List.getElem?_append_right (by simp; omega)] at hu'
                            have el : ((c.drop ao).take (len * k)).length = len * k := by simp; omega
                            rw [el] at hu'
                            have hjn : j - len * k < n * k := by
                              rcases Nat.lt_or_ge (j - len * k) (n * k) with q | q
                              · exact q
                              · rw [List.getElem?_eq_none (by omega)] at hu'; cases hu'
                            rw [if_pos (by simp; omega)]
                            obtain ⟨u', t1, t2⟩ := hv.get _ hu'
                            exact ⟨u', by rw [← t1]; congr 1; omega, t2⟩
                        have hle' := le_upd (⟨B, s + ao, C.size, k⟩ : Img) S1.dom
                        obtain ⟨S3, hle⟩ := S2.addO (o := .cells ((c.drop ao).take (len * k) ++ new) T') (x := ⟨B, s + ao, C.size, k⟩) free hW (by simp; exact lt_of_get g2)
                          ⟨C', fr, esz.symm, hck.symm, by simp [lt_of_get g2], by rw [esz]; exact g3, by simp; omega, fun j u hu' => by obtain ⟨u', t1, t2⟩ := hcont j u hu'; exact ⟨u', t1, t2.mono hle'⟩⟩
                        refine ⟨_, { w with heap := w.heap.setIfInBounds B (.cells C' T' fr) }, .slice (some ⟨B, s + ao, none⟩) (len + n) c', hle, S3, ?_, ?_, ⟨rfl, Nat.le_succ _⟩, ?_⟩
                        · have hnew : upd β (hp.set ab .dead).n ⟨B, s + ao, C.size, k⟩ (hp.set ab .dead).n = some ⟨B, s + ao, C.size, k⟩ := by simp [upd]
                          have := VR.slack (o := 0) hnew (len + n) (c := len + n) (c' := c') hin (by omega)
                          simp only [Nat.add_zero] at this
                          exact this
                        · exact ⟨rfl, rfl, rfl, by simp, fun j hj => by
                            have hne : ¬ B = j := fun e => hj (by rw [← e]; exact hW)
                            simp only; rw [Array.getElem?_setIfInBounds, if_neg hne]⟩
                        · refine append_in h0 hu hk hzs hi q1 q2 hn hin ?_
                          simp only [Addr.add_none]; exact r1
                      · -- the model has none
                        obtain ⟨newCap, dr, e1, e2⟩ := append_out (T := T) h0 hu hk hzs hi q1 q2 hn (old := old'.toArray) (base := some ⟨B, s + ao, none⟩) (len := len) (cap := c')
                          (fun w' he => by
                            have := run_loadCells_list (P := E.P) w' ⟨B, s + ao, none⟩ old' (fun j v hv => he.cell (o3 j v hv))
                            rw [o1] at this
                            simp only [Builtin.firstCells, this]) hzv (by omega) hr2 hr1
                        obtain ⟨β', f1, f2, f3, f4⟩ := grown_ok S1 (w' := { w with drawn := dr, heap := w.heap.push (.cells (old'.toArray ++ new' ++ Builtin.zeroCells z.cells (newCap - (len + n))) T') }) (C := old'.toArray ++ new') (R := Builtin.zeroCells z.cells (newCap - (len + n))) (m := len + n) (cap' := newCap) hck
                          (by simpa using o2.append hv) (by simp [o1, hnl', Nat.add_mul]) (by rw [zeroCells_size, hzk]) e1 rfl rfl rfl rfl
                        exact ⟨β', _, _, f1, f2, f4, f3, ⟨rfl, Nat.le_succ _⟩, e2⟩
                    · cases h
                | false =>
                  rw [hsl] at h; simp only [cond_false] at h
                  split at h
                  · cases h
                  · rename_i hno2
                    split at h
                    · rename_i old hold
                      cases h
                      obtain ⟨old', o2, o3⟩ := first_ok S hs hold
                      have ol : old.length = len * k := by
                        rcases first_size S (x' := x) hold with q | q
                        · exact q
                        · cases q
                      have ol' : old'.size = len * k := by have := o2.len; simp at this; omega
                      have hsc : ∃ a', s' = .slice (some a') len cap := by
                        cases hs with
                        | slice hA => exact ⟨_, rfl⟩
                        | slack _ _ _ _ => simp [isSlack] at hsl
                        | opq _ _ => exact (hno2 rfl).elim
                      obtain ⟨a', rfl⟩ := hsc
                      obtain ⟨newCap, dr, e1, e2⟩ := append_out (T := T) h0 hu hk hzs hi q1 q2 hn o3 hzv (by omega) hr2 hr1
                      obtain ⟨β', f1, f2, f3, f4⟩ := grown_ok S (w' := { w with drawn := dr, heap := w.heap.push (.cells (old' ++ new' ++ Builtin.zeroCells z.cells (newCap - (len + n))) elem) }) (C := old' ++ new') (R := Builtin.zeroCells z.cells (newCap - (len + n))) (m := len + n) (cap' := newCap) hck
                        (by simpa using o2.append hv) (by simp [ol', hnl', Nat.add_mul]) (by rw [zeroCells_size, hzk]) e1 rfl rfl rfl rfl
                      exact ⟨β', _, _, f1, f2, f4, f3, ⟨rfl, Nat.le_succ _⟩, e2⟩
                    · cases h
        · cases h
      · cases h
    · cases h

end Go.Proofs.Ytadfhabapgipbaa.V
