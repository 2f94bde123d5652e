/- Calls that write what they are handed of this call's own; calls that look at it. .. and what follows it, in one text.
   No condition beyond those that each part names. -/
import Derived.Test.YtcjcbcmapjcfnaaV31
import Derived.Test.YtcjcbcmapjcfnaaVs
/-! ## Calls that write what they are handed of this call's own; calls that look at it. -/
namespace Go.Proofs.Ytcjcbcmapjcfnaa.V
open Go
set_option linter.unusedVariables false
set_option linter.unusedSimpArgs false
set_option linter.unusedSectionVars false

theorem run_prim {E : Env} {g : FuncId} {p : List Value → Heap → Option (Value × Heap)} (hp : E.prim g = some p) (n : Nat) (args : List Value) (h : Heap) : run E (n + 1) g args h = p args h := by
  simp only [run, hp]
theorem known_evp {E : Env} {g : FuncId} {v : Value} (hp : E.prim g = some (known v)) (h : Heap) (hw : Wf h) : Ev E g [] h (fun w _ => w = v) :=
  ⟨1, v, h, by rw [run_prim hp]; rfl, HExt.refl h, rfl⟩

/-- A block that was given away is one's own again. -/
theorem Has.reown {own : List Blk} {b : Nat} {o : O} {h0 h1 hf1 : Heap} (m : Has own h0 h1 hf1) (hb : hf1.get b = some o) (ho : o ≠ .dead) (hnb : inOwn own b = false) (hlim : hf1.lim ≤ b)
    (h0b : ∀ o', h0.get b = some o' → o' = .dead) : Has (⟨b, o⟩ :: own) h0 h1 (hf1.set b .dead) := by
  have hlt := m.wf.lt b o hb
  have wf' : Wf (hf1.set b .dead) := by
    refine ⟨fun x o' hx => ?_, m.wf.lim⟩
    rw [get_set] at hx
    split at hx
    · rename_i q; subst q; exact hlt
    · exact m.wf.lt x o' hx
  refine ⟨⟨m.ext.base, m.ext.lim, m.ext.n, fun x o' hx ho' => ?_, fun _ => wf'⟩, wf', ⟨m.msk.base, m.msk.lim, m.msk.n, fun x hx => ?_, fun x hx => ?_, fun x hx => ?_⟩, ?_, ?_⟩
  · rw [get_set]
    split
    · rename_i q; subst q; exact absurd (h0b o' hx) ho'
    · exact m.ext.get x o' hx ho'
  · rw [get_set]
    split
    · rfl
    · rename_i q
      rw [Has.io_cons, Trie.nb q, Bool.false_or] at hx
      exact m.msk.dead x hx
  · rw [Has.io_cons, Bool.or_eq_false_iff] at hx
    have q : ¬ b = x := by intro e; subst e; have := hx.1; rw [Nat.beq_refl] at this; cases this
    rw [get_set, if_neg q]; exact m.msk.get x hx.2
  · rw [Has.io_cons, Bool.or_eq_true] at hx
    rcases hx with q | q
    · have := Nat.eq_of_beq_eq_true q; subst this; exact hlt
    · exact m.msk.lt x q
  · intro e he
    rcases List.mem_cons.mp he with q | q
    · subst q; exact ⟨by rw [m.msk.get b hnb]; exact hb, by rw [m.msk.lim]; exact hlim⟩
    · exact m.blk e q
  · rw [List.map_cons, List.nodup_cons]
    refine ⟨fun hm => ?_, m.nd⟩
    obtain ⟨e, he, hbe⟩ := List.mem_map.mp hm
    have := inOwn_iff.mpr ⟨e, he, hbe⟩
    rw [hnb] at this; cases this

theorem AccR.rl {α : Type} {R : Rep α} {elem : TypeId} {h : Heap} {b : Nat} {rows : List (List Value)} {xs : List α} (hl : xs.length < 9223372036854775808) (hT : elem = R.T) (hb : h.get b = some (.cells rows.flatten elem)) (s : Rws R h rows xs) :
    RL R h (some ⟨b, 0, some 0⟩) xs.length xs := RL.of_blk (.inr rfl) hb rfl s hl (Nat.le_refl _) hT

section
variable {X : Cx} {st : List It} {l : L} {h0 : Heap} {segs : List (List Blk)}
variable {r : Array Oper} {os : List Oper} {d : Nat} {ty : TypeId} {pos : String} {aft : Array Edge}
/-- A call that looks at what grows, and changes nothing. -/
theorem gs_callb {α : Type} {R : Rep α} {elem : TypeId} {tl : List Blk} {p : Option Addr} {ys : List α} {segs' : List (List Blk)} {f : Operand} {xs : Array Operand} {ts : Array TypeId} {gf : FuncId} {fi ca : Array Value} {vs : List Value} {v : Value}
    (hF : FramedE X.E) (hn : Nat.blt d X.nt = true) (hg : DelSeg tl segs segs') (acc : AccR R elem h0 tl (.slice p ys.length ys.length) ys) (hT : elem = R.T)
    (hf' : OP l true f (.func (.func gf) fi ca)) (hx : OPs l true xs.toList vs) (hb : hasBody X.E.P gf = true)
    (hs : ∀ hf, Kn h0 hf → Wf hf → RL R hf p ys.length ys → Ev X.E gf (fi.toList ++ (vs ++ ca.toList)) hf (fun w _ => w = v))
    (kk : Goes X (.ops r false os :: st) ((d, true, v) :: l) segs.flatten h0) : Goes X (.ops r false (⟨some d, .call ⟨.value f, xs, ts⟩, ty, pos, aft, none⟩ :: os) :: st) l segs.flatten h0 := by
  obtain ⟨pre, post, rfl, rfl⟩ := hg.pp
  obtain ⟨hxl, ⟨h1, ⟨p0, h2, hp0⟩, h3⟩ | ⟨b, rows, h1, h2, h3⟩⟩ := acc
  · subst h1 h3
    have hp : p = p0 := by simpa using h2
    subst hp
    exact g_callp hF hn hf' hx hb (fun h => by cases h) (fun hf kn w => hs hf kn w ⟨by simp, Nat.zero_le _, fun i x hx => by simp at hx, fun a0 e1 e2 => by rw [hp0 a0 e1] at e2; cases e2⟩) kk
  · have hp : p = some ⟨b, 0, some 0⟩ := by simpa using h1
    subst hp h2
    refine go_perm (pf pre post _) ?_
    have kk := go_perm (pf pre post [⟨b, .cells rows.flatten elem⟩]).symm kk
    intro fr h hf ag hs'
    have hd : hf.get b = some .dead := hs'.msk.dead b (inOwn_iff.mpr ⟨_, List.mem_cons_self, rfl⟩)
    have hlim : hf.lim ≤ b := by have := (hs'.blk _ List.mem_cons_self).2; rw [hs'.msk.lim] at this; exact this
    have nd := hs'.nd
    have hnb : inOwn (pre ++ post).flatten b = false := by
      cases q : inOwn (pre ++ post).flatten b with
      | false => rfl
      | true =>
        obtain ⟨e, he, hbe⟩ := inOwn_iff.mp q
        have nd' : (b :: ((pre ++ post).flatten.map Blk.b)).Nodup := nd
        rw [List.nodup_cons] at nd'
        exact absurd (List.mem_map.mpr ⟨e, he, hbe⟩) nd'.1
    have hs2 : Has (⟨b, .cells rows.flatten elem⟩ :: (pre ++ post).flatten) h0 h hf := hs'
    have hpub := hs2.pubH
    have hget : (hf.set b (.cells rows.flatten elem)).get b = some (.cells rows.flatten elem) := by rw [get_set, if_pos rfl]
    obtain ⟨n, v', hf1, hr, he, hq⟩ := hs _ hpub.ext.kn hpub.wf (AccR.rl hxl hT hget (h3.ext hpub.ext.kn))
    subst hq
    obtain ⟨h1, hr1, m1, k1⟩ := run_msk hF n (inOwn (pre ++ post).flatten) _ h gf _ v' hf1 hpub.msk hr
    have hw1 := he.wf hpub.wf
    have ho : opV X.E (run X.E n) fr h (.call ⟨.value f, xs, ts⟩) = some (v', h1) := by
      simp only [opV, readV, writeV, calleeV, hf' fr ag rfl, hx fr ag rfl, hb, cond_true]
      exact hr1
    have hl : h1.lim = h.lim := by rw [m1.lim, he.lim, hpub.msk.lim]
    have hh := hpub.keep k1 m1 (hpub.ext.trans he) hw1 hl
    have hb1 := he.get _ _ hget (by intro q; cases q)
    have hh2 := hh.reown hb1 (by intro q; cases q) hnb (by rw [he.lim]; exact hlim) (fun o' ho' => by
      cases o' with
      | dead => rfl
      | cells c T => have := hs'.ext.get _ _ ho' (by intro q; cases q); rw [hd] at this; cases this
      | map es => have := hs'.ext.get _ _ ho' (by intro q; cases q); rw [hd] at this; cases this)
    exact step_op rfl ho (put_some hn _ _) (kk _ _ _ (ag.set d true v') hh2)
end

/-! ### Calls that are told -/
theorem Has.rebase {own : List Blk} {h0 h hf : Heap} (m : Has own h0 h hf) : Has own hf h hf := ⟨HExt.refl hf, m.wf, m.msk, m.blk, m.nd⟩
theorem splice_all {cs vs : List Value} (h : vs.length = cs.length) : splice cs 0 vs = vs := by
  unfold splice
  rw [List.take_zero, List.nil_append, Nat.zero_add, h, List.drop_length, List.append_nil]

section
variable {α β : Type} [Inhabited α] {enc : α → Value} {dec : Value → Option α} {enc' : β → Value} {conv : β → α} {back : α → β}
theorem decL_map (h1 : ∀ x, dec (enc' x) = some (conv x)) : ∀ xs : List β, decL dec (xs.map enc') = some (xs.map conv)
  | [] => rfl
  | x :: xs => by simp only [List.map_cons, decL, h1, decL_map h1 xs]
theorem rws_flat {T : Nat} {hc} {h : Heap} : ∀ {rows : List (List Value)} {xs : List β}, Rws (Rep.flat 1 T (fun x => [enc' x]) hc) h rows xs → rows.flatten = xs.map enc'
  | [], [], _ => rfl
  | [], _ :: _, s => by have := s.len; simp at this
  | _ :: _, [], s => by have := s.len; simp at this
  | row :: rows, x :: xs, s => by
    have h0 : row = [enc' x] := s.C 0 row x rfl rfl
    have ht : Rws (Rep.flat 1 T (fun x => [enc' x]) hc) h rows xs := ⟨by have := s.len; simpa using this, fun i r y hr hy => s.C (i + 1) r y (by simpa using hr) (by simpa using hy)⟩
    rw [List.flatten_cons, h0, rws_flat ht]; rfl
theorem rws_mk {T : Nat} {hc} {h : Heap} (xs : List β) : Rws (Rep.flat 1 T (fun x => [enc' x]) hc) h (xs.map fun x => [enc' x]) xs :=
  ⟨by simp, fun i row x hr hx => by rw [List.getElem?_map, hx] at hr; cases hr; rfl⟩
theorem flat_map1 (xs : List β) : (xs.map fun x => [enc' x]).flatten = xs.map enc' := by
  induction xs with
  | nil => rfl
  | cons x xs ih => rw [List.map_cons, List.flatten_cons, ih]; rfl
theorem map_back (h2 : ∀ y, enc y = enc' (back y)) (ys : List α) : ys.map enc = (ys.map back).map enc' := by
  rw [List.map_map]; congr 1; funext y; exact h2 y

theorem rowOf_acc (h1 : ∀ x, dec (enc' x) = some (conv x)) {h : Heap} {b : Nat} {T : TypeId} {xs : List β} (hb : h.get b = some (.cells (xs.map enc') T)) (hlim : h.lim ≤ b) (hl : xs.length < 4611686018427387904) :
    rowOf dec (some ⟨b, 0, some 0⟩) xs.length h = some (b, 0, xs.map enc', T, xs.map conv) := by
  unfold rowOf
  simp only [spotOk, cond_true, hb]
  rw [Nat.ble_eq_true_of_le hlim, Nat.ble_eq_true_of_le (show 0 + xs.length ≤ (xs.map enc').length by rw [List.length_map]; omega), show Nat.blt xs.length 4611686018427387904 = true by simpa [Nat.blt_eq] using hl]
  simp only [Bool.and_self, cond_true, List.drop_zero]
  rw [List.take_of_length_le (by rw [List.length_map]; omega), decL_map h1]

theorem evo_row {f : List α → List α} (h1 : ∀ x, dec (enc' x) = some (conv x)) (h2 : ∀ y, enc y = enc' (back y)) (hfl : ∀ zs, (f zs).length = zs.length) {E : Env} {g : FuncId} (hp : E.prim g = some (rowP enc dec f)) {T : Nat} {hc} {elem : TypeId} {h : Heap} {t : List Blk} {q : Option Addr} {xs : List β}
    (a : AccR (Rep.flat 1 T (fun x => [enc' x]) hc) elem h t (.slice q xs.length xs.length) xs) (hl : xs.length < 4611686018427387904) {ys : List β} (hy : ys = (f (xs.map conv)).map back) :
    EvO E g [.slice q xs.length xs.length] [t] h (fun v S h1 => ∃ t', v = .tuple #[] ∧ S = [t'] ∧ AccR (Rep.flat 1 T (fun x => [enc' x]) hc) elem h1 t' (.slice q ys.length ys.length) ys) := by
  intro h' hf' hs
  have hyl : ys.length = xs.length := by rw [hy, List.length_map, hfl, List.length_map]
  have nil0 : xs.length = 0 → ys = xs := fun e => by rw [List.length_eq_zero_iff.mp e]; rw [e] at hyl; exact List.length_eq_zero_iff.mp hyl
  cases e : Nat.beq xs.length 0 with
  | true =>
    have e0 := Nat.eq_of_beq_eq_true e
    have hrun : run E 1 g [.slice q xs.length xs.length] h' = some (.tuple #[], h') := by
      rw [run_prim hp]; simp only [rowP, e, cond_true]
    refine ⟨1, _, h', [t], hf', hf', hrun, hs.ext, hs.wf, hs.rebase, ?_, t, rfl, rfl, ?_⟩
    · exact ndt a nd0
    · rw [nil0 e0]; exact a.ext hs.ext.kn
  | false =>
    obtain ⟨hxl, ⟨g1, _, _⟩ | ⟨b, rows, g1, g2, g3⟩⟩ := a
    · subst g1; cases e
    · have hq : q = some ⟨b, 0, some 0⟩ := by simpa using g1
      subst hq g2
      have hfl' := rws_flat g3
      rw [hfl'] at hs
      have hs : Has [⟨b, .cells (xs.map enc') elem⟩] h h' hf' := hs
      obtain ⟨hb, hlim⟩ := hs.blk _ List.mem_cons_self
      have hro := rowOf_acc h1 hb hlim hl
      have hbeq : Nat.beq (f (xs.map conv)).length xs.length = true := by rw [hfl, List.length_map]; exact Nat.beq_refl _
      have hmb : (f (xs.map conv)).map enc = ys.map enc' := by rw [map_back h2, ← hy]
      have hspl : splice (xs.map enc') 0 ((f (xs.map conv)).map enc) = ys.map enc' := by
        rw [splice_all (by rw [List.length_map, List.length_map, hfl, List.length_map]), hmb]
      have hrun : run E 1 g [.slice (some ⟨b, 0, some 0⟩) xs.length xs.length] h' = some (.tuple #[], h'.set b (.cells (ys.map enc') elem)) := by
        rw [run_prim hp]; simp only [rowP, e, cond_false, hro, hbeq, cond_true, hspl]
      refine ⟨1, _, _, [[⟨b, .cells (ys.map enc') elem⟩]], hf', hf', hrun, hs.ext, hs.wf, (hs.storeH _).rebase, ndb (by intro q; cases q) nd0, _, rfl, rfl, by omega, .inr ⟨b, ys.map fun x => [enc' x], rfl, by rw [flat_map1], rws_mk ys⟩⟩

theorem evo_part {zr : α} {f : List α → List α} (h1 : ∀ x, dec (enc' x) = some (conv x)) (h2 : ∀ y, enc y = enc' (back y)) (hfl : ∀ zs, (f zs).length ≤ zs.length) {E : Env} {g : FuncId} (hp : E.prim g = some (partP enc dec zr f)) {T : Nat} {hc} {elem : TypeId} (hT : elem = T) {h : Heap} {t : List Blk} {q : Option Addr} {xs : List β}
    (a : AccR (Rep.flat 1 T (fun x => [enc' x]) hc) elem h t (.slice q xs.length xs.length) xs) (hl : xs.length < 4611686018427387904) {ys : List β} (hy : ys = (f (xs.map conv)).map back) :
    EvO E g [.slice q xs.length xs.length] [t] h (fun v S h1 => ∃ a c, v = .slice a ys.length c ∧ S = [] ∧ RL (Rep.flat 1 T (fun x => [enc' x]) hc) h1 a c ys) := by
  intro h' hf' hs
  have hyl : ys.length ≤ xs.length := by rw [hy, List.length_map]; exact Nat.le_trans (hfl _) (by rw [List.length_map]; exact Nat.le_refl _)
  subst hT
  cases e : Nat.beq xs.length 0 with
  | true =>
    have e0 := Nat.eq_of_beq_eq_true e
    have ex : xs = [] := List.length_eq_zero_iff.mp e0
    have ey : ys = [] := List.length_eq_zero_iff.mp (by omega)
    clear hy
    subst ex ey
    have hrun : run E 1 g [.slice q ([] : List β).length ([] : List β).length] h' = some (.slice q 0 0, h') := by
      rw [run_prim hp]; rfl
    obtain ⟨hxl, ⟨_, ⟨p0, g2, hp0⟩, g3⟩ | ⟨b, rows, g1, g2, g3⟩⟩ := a
    · have hq : q = p0 := by simpa using g2
      subst hq g3
      exact ⟨1, _, h', [], hf', hf', hrun, hs.ext, hs.wf, hs.rebase, nd0, _, _, rfl, rfl, by simp, Nat.le_refl _, fun i x hx => by simp at hx, fun a0 e1 e2 => by rw [hp0 a0 e1] at e2; cases e2⟩
    · have hq : q = some ⟨b, 0, some 0⟩ := by simpa using g1
      subst hq g2
      have hs : Has [⟨b, .cells rows.flatten elem⟩] h h' hf' := hs
      have hpb := hs.pubH
      refine ⟨1, _, h', [], _, _, hrun, hpb.ext, hpb.wf, hpb.rebase, nd0, _, _, rfl, rfl, by simp, Nat.le_refl _, fun i x hx => by simp at hx, fun a0 e1 e2 => ?_⟩
      cases e1
      exact ⟨rows.flatten, by rw [get_set, if_pos rfl]; rfl⟩
  | false =>
    obtain ⟨hxl, ⟨g1, _, _⟩ | ⟨b, rows, g1, g2, g3⟩⟩ := a
    · subst g1; cases e
    · have hq : q = some ⟨b, 0, some 0⟩ := by simpa using g1
      subst hq g2
      have hfl' := rws_flat g3
      rw [hfl'] at hs
      have hs : Has [⟨b, .cells (xs.map enc') elem⟩] h h' hf' := hs
      obtain ⟨hb, hlim⟩ := hs.blk _ List.mem_cons_self
      have hro := rowOf_acc h1 hb hlim hl
      have hfle : (f (xs.map conv)).length ≤ xs.length := by have := hfl (xs.map conv); rw [List.length_map] at this; exact this
      have hble : Nat.ble (f (xs.map conv)).length xs.length = true := Nat.ble_eq_true_of_le hfle
      have hble2 : Nat.ble xs.length xs.length = true := Nat.ble_eq_true_of_le (Nat.le_refl _)
      have hyle : ys.length = (f (xs.map conv)).length := by rw [hy, List.length_map]
      have hrl : (f (xs.map conv) ++ List.replicate (xs.length - (f (xs.map conv)).length) zr).length = xs.length := by rw [List.length_append, List.length_replicate]; omega
      have hmb : (f (xs.map conv) ++ List.replicate (xs.length - (f (xs.map conv)).length) zr).map enc = (ys ++ (List.replicate (xs.length - (f (xs.map conv)).length) zr).map back).map enc' := by
        rw [map_back h2, List.map_append, ← hy]
      have hspl : splice (xs.map enc') 0 ((f (xs.map conv) ++ List.replicate (xs.length - (f (xs.map conv)).length) zr).map enc) = (ys ++ (List.replicate (xs.length - (f (xs.map conv)).length) zr).map back).map enc' := by
        rw [splice_all (by rw [List.length_map, List.length_map, hrl]), hmb]
      have hrun : run E 1 g [.slice (some ⟨b, 0, some 0⟩) xs.length xs.length] h' = some (.slice (some ⟨b, 0, some 0⟩) (f (xs.map conv)).length xs.length, h'.set b (.cells ((ys ++ (List.replicate (xs.length - (f (xs.map conv)).length) zr).map back).map enc') elem)) := by
        rw [run_prim hp]; simp only [partP, e, cond_false, hro, hble, hble2, Bool.and_self, cond_true, hspl]
      have hpb := (hs.storeH (.cells ((ys ++ (List.replicate (xs.length - (f (xs.map conv)).length) zr).map back).map enc') elem)).pubH
      have hget : (hf'.set b (.cells ((ys ++ (List.replicate (xs.length - (f (xs.map conv)).length) zr).map back).map enc') elem)).get b = some (.cells ((ys ++ (List.replicate (xs.length - (f (xs.map conv)).length) zr).map back).map enc') elem) := by rw [get_set, if_pos rfl]
      have hrun2 : run E 1 g [.slice (some ⟨b, 0, some 0⟩) xs.length xs.length] h' = some (.slice (some ⟨b, 0, some 0⟩) ys.length xs.length, h'.set b (.cells ((ys ++ (List.replicate (xs.length - (f (xs.map conv)).length) zr).map back).map enc') elem)) := by
        rw [hrun, hyle]
      refine ⟨1, _, _, [], _, _, hrun2, hpb.ext, hpb.wf, hpb.rebase, nd0, _, _, rfl, rfl, by omega, hyl, fun i x hx => ?_, fun a0 e1 e2 => by cases e1; exact ⟨_, hget⟩⟩
      have hi : i < ys.length := by
        rcases Nat.lt_or_ge i ys.length with q | q
        · exact q
        · rw [List.getElem?_eq_none q] at hx; cases hx
      refine ⟨_, ⟨b, 0 + i * 1, none⟩, [enc' x], rfl, rfl, ?_, rfl⟩
      unfold cellsAt
      dsimp only
      rw [hget]
      dsimp only
      rw [Nat.ble_eq_true_of_le (by rw [List.length_map, List.length_append]; show 0 + i * 1 + 1 ≤ _; omega)]
      simp only [cond_true, Option.some.injEq]
      have hlt : 0 + i * 1 < ((ys ++ (List.replicate (xs.length - (f (xs.map conv)).length) zr).map back).map enc').length := by rw [List.length_map, List.length_append]; omega
      show List.take 1 _ = _
      rw [List.drop_eq_getElem_cons hlt, List.take_succ_cons, List.take_zero]
      congr 1
      have : ((ys ++ (List.replicate (xs.length - (f (xs.map conv)).length) zr).map back).map enc')[0 + i * 1]? = some (enc' x) := by
        rw [List.getElem?_map, List.getElem?_append_left (by omega), show 0 + i * 1 = i by omega, hx]; rfl
      rw [List.getElem?_eq_getElem hlt] at this
      exact Option.some.inj this
end

theorem comp_le (zs : List (List UInt8)) : (Lib.compact zs).length ≤ zs.length := by
  unfold Lib.compact Lib.compactUpTo
  rw [List.length_map]
  exact Nat.le_trans (List.length_filter_le _ _) (by simp)
theorem sl_C {α : Type} {R : Rep α} {T : Nat} {h : Heap} {a : Option Addr} {c : Nat} {x : List α} (f : RL R h a c x) : (Rep.sl R T).C h [.slice a x.length c] x := ⟨a, c, rfl, f⟩

/-! ### .. of texts and whole numbers -/
def toB (l : List UInt8) : ByteArray := ⟨l.toArray⟩
def sortB (xs : List ByteArray) : Option (List ByteArray) := if xs.length < 4611686018427387904 then some ((sortL (xs.map (·.toList))).map toB) else none
def compB (xs : List ByteArray) : Option (List ByteArray) := if xs.length < 4611686018427387904 then some ((Lib.compact (xs.map (·.toList))).map toB) else none
def sortZ (xs : List Int) : Option (List Int) := if xs.length < 4611686018427387904 then some (sortI xs) else none
theorem ite_some' {α : Type} {c : Prop} [Decidable c] {a b : α} (h : (if c then some a else none) = some b) : c ∧ b = a := by
  split at h
  · cases h; exact ⟨by assumption, rfl⟩
  · cases h
theorem sortB_len {xs ys : List ByteArray} (h : sortB xs = some ys) : ys.length = xs.length := by
  obtain ⟨_, rfl⟩ := ite_some' h
  rw [List.length_map]; unfold sortL; rw [List.length_mergeSort, List.length_map]
theorem sortZ_len {xs ys : List Int} (h : sortZ xs = some ys) : ys.length = xs.length := by
  obtain ⟨_, rfl⟩ := ite_some' h
  unfold sortI; rw [List.length_mergeSort]
theorem evo_sortB {E : Env} {g : FuncId} (hp : E.prim g = some (rowP encStr decS sortL)) {T : Nat} {elem : TypeId} {h : Heap} {t : List Blk} {q : Option Addr} {xs ys : List ByteArray}
    (a : AccR (RS_ T) elem h t (.slice q xs.length xs.length) xs) (hy : sortB xs = some ys) :
    EvO E g [.slice q xs.length xs.length] [t] h (fun v S h1 => ∃ t', v = .tuple #[] ∧ S = [t'] ∧ AccR (RS_ T) elem h1 t' (.slice q ys.length ys.length) ys) := by
  obtain ⟨hl, hy⟩ := ite_some' hy
  exact evo_row (enc' := fun x => Value.string x) (conv := (·.toList)) (back := toB) (fun x => rfl) (fun y => rfl) (fun zs => by unfold sortL; exact List.length_mergeSort _) hp a hl hy
theorem evo_sortZ {E : Env} {g : FuncId} (hp : E.prim g = some (rowP encI decI sortI)) {T : Nat} {elem : TypeId} {h : Heap} {t : List Blk} {q : Option Addr} {xs ys : List Int}
    (a : AccR (RI_ .i64 T) elem h t (.slice q xs.length xs.length) xs) (hy : sortZ xs = some ys) :
    EvO E g [.slice q xs.length xs.length] [t] h (fun v S h1 => ∃ t', v = .tuple #[] ∧ S = [t'] ∧ AccR (RI_ .i64 T) elem h1 t' (.slice q ys.length ys.length) ys) := by
  obtain ⟨hl, hy⟩ := ite_some' hy
  exact evo_row (enc' := fun x => Value.int .i64 x) (conv := id) (back := id) (fun x => rfl) (fun y => rfl) (fun zs => by unfold sortI; exact List.length_mergeSort _) hp a hl (by rw [hy, List.map_id, List.map_id])
theorem evo_compB {E : Env} {g : FuncId} (hp : E.prim g = some (partP encStr decS [] Lib.compact)) (hcl : ∀ zs : List (List UInt8), (Lib.compact zs).length ≤ zs.length) {T : Nat} {h : Heap} {t : List Blk} {q : Option Addr} {xs ys : List ByteArray}
    (a : AccR (RS_ T) T h t (.slice q xs.length xs.length) xs) (hy : compB xs = some ys) :
    EvO E g [.slice q xs.length xs.length] [t] h (fun v S h1 => ∃ a c, v = .slice a ys.length c ∧ S = [] ∧ RL (RS_ T) h1 a c ys) := by
  obtain ⟨hl, hy⟩ := ite_some' hy
  exact evo_part (enc' := fun x => Value.string x) (conv := (·.toList)) (back := toB) (fun x => rfl) (fun y => rfl) hcl hp rfl a hl hy
/-! ### Room, ahead of what is appended -/
def growN (B : Nat) (n : Int) : Option Unit := if 0 ≤ n ∧ n ≤ 140737488355328 ∧ n * (B : Int) ≤ 281474976710656 ∧ roomy n.toNat B = true then some () else none
theorem evo_growP {EB E : Env} {g : FuncId} {k : Nat} {n : Int} {elem : TypeId} {h : Heap} {α : Type} (R : Rep α)
    (hB : EvO EB g [.slice none 0 0, .int .i64 n] [] h (fun v S h1 => (v = .slice none 0 0 ∧ S = []) ∨ ∃ b cs c, v = .slice (some ⟨b, 0, some 0⟩) 0 c ∧ S = [[⟨b, .cells cs elem⟩]]))
    (hp : E.prim g = some (shrinkP k EB g)) : EvO E g [.slice none 0 0, .int .i64 n] [] h (fun v S h1 => ∃ q t, v = .slice q 0 0 ∧ S = [t] ∧ AccR R elem h1 t (.slice q ([] : List α).length ([] : List α).length) ([] : List α)) := by
  intro h' hf' hs
  obtain ⟨m, v, h2, segs', h1, hf2, hr, e, w, hs2, nd, hq⟩ := hB h' hf' hs
  have ha := runAny_of hr
  rcases hq with ⟨rfl, rfl⟩ | ⟨b, cs, c, rfl, rfl⟩
  · have hrun : run E 1 g [.slice none 0 0, .int .i64 n] h' = some (.slice none 0 0, h2) := by
      rw [run_prim hp]; unfold shrinkP; rw [ha]; rfl
    exact ⟨1, _, h2, [[]], h1, hf2, hrun, e, w, hs2, nde nd0, none, [], rfl, rfl, by simp, .inl ⟨rfl, ⟨none, rfl, fun _ h => by cases h⟩, rfl⟩⟩
  · have hs2 : Has [⟨b, .cells cs elem⟩] h1 h2 hf2 := hs2
    obtain ⟨hb, hlim⟩ := hs2.blk _ List.mem_cons_self
    have hrun : run E 1 g [.slice none 0 0, .int .i64 n] h' = some (.slice (some ⟨b, 0, some 0⟩) 0 0, h2.set b (.cells [] elem)) := by
      rw [run_prim hp]; unfold shrinkP; rw [ha]
      dsimp only at hb hlim
      rw [Option.bind_some, shrink_slack, hb]; dsimp only
      rw [Nat.ble_eq_true_of_le hlim, Nat.ble_eq_true_of_le (Nat.zero_le c), Nat.zero_mul, List.take_zero]; rfl
    exact ⟨1, _, _, [[⟨b, .cells [] elem⟩]], h1, hf2, hrun, e, w, hs2.storeH _, ndb (by intro q; cases q) nd0, _, _, rfl, rfl, by simp, .inr ⟨b, [], rfl, rfl, Rws.nil⟩⟩

section
variable {X : Cx} {st : List It} {l : L} {own : List Blk} {h0 : Heap}
variable {r : Array Oper} {os : List Oper} {d : Nat} {ty : TypeId} {pos : String} {aft : Array Edge}
theorem r_sliceh {E : Env} {g : Bool} {t : TypeId} {x : Operand} {lo hi mx : Option Operand} {a : Value} {o1 o2 o3 : Option Value} {v : Value} (hx : OP l g x a)
    (h1 : ∀ fr, Agree l fr → g = true → evOpt fr lo = some o1) (h2 : ∀ fr, Agree l fr → g = true → evOpt fr hi = some o2) (h3 : ∀ fr, Agree l fr → g = true → evOpt fr mx = some o3)
    (h : ∀ h' hf, Has own h0 h' hf → sliceV E h' t a o1 o2 o3 = some v) : RV E l own h0 g (.slice t x lo hi mx) v := by
  intro fr h' hf ag hs q
  unfold readV; dsimp only; rw [hx fr ag q, h1 fr ag q, h2 fr ag q, h3 fr ag q]; exact h h' hf hs
theorem r_capn {E : Env} {g : Bool} {xs : Array Operand} {ts : Array TypeId} {t : TypeId} (ht : ts[0]? = some t) (hx : OPs l g xs.toList [.slice none 0 0]) (hc : capV E t (.slice none 0 0) = some (.int .i64 0)) : RV E l own h0 g (.call ⟨.builtin .cap, xs, ts⟩) (.int .i64 0) := by
  intro fr h' hf ag hs q
  unfold readV; dsimp only; rw [hx fr ag q]; dsimp only; rw [ht]; exact hc
theorem g_appn {args : Array Operand} {ts : Array TypeId} {sT elem k bytes : Nat} {n : Int} {ik : IntKind} {z : Value} (hn : Nat.blt d X.nt = true) (hx : OPs l true args.toList [.slice none 0 0, .int ik n]) (ht : ts[0]? = some sT) (hu : X.E.P.underlying sT = some (.slice elem))
    (hk : sz X.E.P elem = some k) (hby : bytesOf X.E.P elem = some bytes) (hz : zeroOf X.E.P elem = some z) (hzz : Nat.beq z.cells.size k = true) (hzs : zerosV X.E.P ts = some true) (h0n : 0 < n) (hg : growN bytes n = some ())
    (kk : ∀ b, Goes X (.ops r false os :: st) ((d, true, .slice (some ⟨b, 0, some 0⟩) n.toNat n.toNat) :: l) (⟨b, .cells (repZ z.cells.toList n.toNat) elem⟩ :: own) h0) :
    Goes X (.ops r false (⟨some d, .call ⟨.builtin .append, args, ts⟩, ty, pos, aft, none⟩ :: os) :: st) l own h0 := by
  intro fr h hf ag hs
  obtain ⟨⟨q1, q2, q3, q4⟩, _⟩ := ite_some' hg
  have hzk := Nat.eq_of_beq_eq_true hzz
  have hlen : Nat.beq (repZ z.cells.toList n.toNat).length (n.toNat * k) = true := by rw [repZ_len, Array.length_toList, hzk]; exact Nat.beq_refl _
  have hnew : newV X.E h elem k bytes true (.int ik n) = some (n.toNat, repZ z.cells.toList n.toNat) := by
    simp only [newV, cond_true, if_pos (show 0 ≤ n ∧ n ≤ 140737488355328 ∧ n * (bytes : Int) ≤ 281474976710656 from ⟨q1, q2, q3⟩), hz, hzz]
  have ho : opV X.E (run X.E 0) fr h (.call ⟨.builtin .append, args, ts⟩) = some (.slice (some ⟨h.n, 0, some 0⟩) n.toNat n.toNat, h.alloc (.cells (repZ z.cells.toList n.toNat) elem)) := by
    simp only [opV, readV, writeV, hx fr ag rfl, appendV, ht, hu, hk, hby, hz, hzs, hnew, hlen, cond_true, Nat.zero_add]
    have : Nat.ble n.toNat 0 = false := by
      cases e : Nat.ble n.toNat 0
      · rfl
      · exact absurd (Nat.le_of_ble_eq_true e) (by omega)
    rw [this]
    simp only [cond_false, q4, hzz, Bool.and_self, cond_true, growV, Nat.zero_add]
    rfl
  exact step_op rfl ho (put_some hn _ _) (kk h.n _ _ _ (ag.set d true _) (hs.alloc _))
theorem sl_own0 {E : Env} {h : Heap} {t elem k b n : Nat} {ik : IntKind} {cs : List Value} (hb : h.get b = some (.cells cs elem)) (hu : E.P.underlying t = some (.slice elem)) (hk : sz E.P elem = some k) (hn : 0 < n) :
    sliceV E h t (.slice (some ⟨b, 0, some 0⟩) n n) none (some (.int ik 0)) none = some (.slice (some ⟨b, 0, some 0⟩) 0 n) := by
  have e : Nat.beq n 0 = false := Trie.nb (by omega)
  have h1 : boundV (some (.int ik 0)) n n = some 0 := by simp only [boundV]; rw [if_pos ⟨by omega, by omega⟩]; rfl
  unfold sliceV
  rw [hu]; dsimp only
  rw [show boundV none n n = some n from rfl]; dsimp only
  simp only [Option.isSome_none, Bool.false_and, cond_false, h1, hk, slackOk, hb, Nat.beq_refl, Bool.or_true, Bool.and_true]
  rw [show boundV none 0 0 = some 0 from rfl]; dsimp only
  rw [Nat.ble_eq_true_of_le (Nat.zero_le n)]
  simp only [cond_true, sliceAddr, e, cond_false, Nat.zero_mul, Nat.add_zero, Nat.sub_zero]
end
end Go.Proofs.Ytcjcbcmapjcfnaa.V

/-! ## Elements of what grows, read and written where they lie. -/
namespace Go.Proofs.Ytcjcbcmapjcfnaa.V
open Go
set_option linter.unusedVariables false
set_option linter.unusedSimpArgs false

theorem setI_len {α : Type} (xs : List α) (i : Int) (x : α) : (setI xs i x).length = xs.length := by unfold setI; exact List.length_set
theorem take_len {α : Type} {cs row : List α} {o k : Nat} (h : (cs.drop o).take k = row) (hl : o + k ≤ cs.length) : row.length = k := by
  rw [← h, List.length_take, List.length_drop]; omega
theorem acc_cell {cs row : List Value} {o k j : Nat} {v : Value} (h : (cs.drop o).take k = row) (hv : row[j]? = some v) : cs[o + j]? = some v := by
  rw [← h, List.getElem?_take] at hv
  split at hv
  · rw [List.getElem?_drop] at hv; exact hv
  · cases hv
theorem acc_part {cs row vs : List Value} {o k j m : Nat} (h : (cs.drop o).take k = row) (hm : j + m ≤ k) (hv : (row.drop j).take m = vs) : (cs.drop (o + j)).take m = vs := by
  rw [← hv, ← h, List.drop_take, List.take_take, List.drop_drop, Nat.min_eq_left (by omega)]
theorem acc_ble {n o k j m : Nat} (h : o + k ≤ n) (hm : j + m ≤ k) : Nat.ble (o + j + m) n = true := Nat.ble_eq_true_of_le (by omega)

theorem flat_splice_part {k : Nat} {vs row : List Value} {j : Nat} : ∀ (rows : List (List Value)) (i : Nat), (∀ r ∈ rows, r.length = k) → rows[i]? = some row → j + vs.length ≤ k → splice rows.flatten (i * k + j) vs = (rows.set i (splice row j vs)).flatten := by
  intro rows
  induction rows with
  | nil => intro i _ hi; simp at hi
  | cons x rows ih =>
    intro i hr hi hj
    have hx := hr x List.mem_cons_self
    cases i with
    | zero =>
      have : x = row := by simpa using hi
      subst this
      unfold splice
      rw [Nat.zero_mul, Nat.zero_add, List.set_cons_zero, List.flatten_cons, List.flatten_cons, List.take_append_of_le_length (by omega), List.drop_append_of_le_length (by omega)]
      simp only [List.append_assoc]
    | succ i =>
      have h1 := ih i (fun y hy => hr y (List.mem_cons_of_mem _ hy)) (by simpa using hi) hj
      unfold splice at h1 ⊢
      rw [List.set_cons_succ, List.flatten_cons, List.flatten_cons]
      rw [show (rows.set i (row.take j ++ (vs ++ row.drop (j + vs.length)))).flatten = _ from h1.symm]
      rw [Nat.succ_mul, show i * k + k + j = x.length + (i * k + j) by omega, List.take_length_add_append, show x.length + (i * k + j) + vs.length = x.length + (i * k + j + vs.length) by omega, List.drop_length_add_append, List.append_assoc]

theorem AccR.set_ {α : Type} {R : Rep α} {elem : TypeId} {h : Heap} {b n : Nat} {rows : List (List Value)} {xs : List α} {i : Int} {x : α} {row : List Value} (hl : xs.length < 9223372036854775808) (s : Rws R h rows xs) (hn : n = i.toNat) (c : R.C h row x) :
    AccR R elem h [⟨b, .cells (rows.set n row).flatten elem⟩] (.slice (some ⟨b, 0, some 0⟩) (setI xs i x).length (setI xs i x).length) (setI xs i x) := by
  subst hn
  exact ⟨by rw [setI_len]; exact hl, .inr ⟨b, rows.set i.toNat row, rfl, rfl, s.set c i.toNat⟩⟩
/-- A row that was written, at its place. -/
theorem flat_at_set {k i : Nat} {row' : List Value} {rows : List (List Value)} (hr : ∀ r ∈ rows, r.length = k) (hi : i < rows.length) (hl : row'.length = k) :
    ((rows.set i row').flatten.drop (i * k)).take k = row' ∧ i * k + k ≤ (rows.set i row').flatten.length := by
  have h1 : ∀ r ∈ rows.set i row', r.length = k := by
    intro r hm
    rcases List.mem_or_eq_of_mem_set hm with q | q
    · exact hr r q
    · subst q; exact hl
  obtain ⟨g1, g2⟩ := flat_at (rows.set i row') i h1 (by rw [List.getElem?_set_self hi])
  exact ⟨g2, g1⟩
section
variable {X : Cx} {st : List It} {l : L} {h0 : Heap} {segs : List (List Blk)}
/-- A call's own blocks, told otherwise. -/
theorem gs_retell {segs' : List (List Blk)} (e : segs = segs') (k : Goes X st l segs'.flatten h0) : Goes X st l segs.flatten h0 := by subst e; exact k
end
/-- The element's place, and what lies there. -/
theorem AccR.at_ {α : Type} {R : Rep α} {elem : TypeId} {h : Heap} {tl : List Blk} {p : Option Addr} {xs : List α} (a : AccR R elem h tl (.slice p xs.length xs.length) xs) {i : Int} {x : α} (hx : getI xs i = some x) :
    ∃ b rows row, p = some ⟨b, 0, some 0⟩ ∧ tl = [⟨b, .cells rows.flatten elem⟩] ∧ Rws R h rows xs ∧ rows[i.toNat]? = some row ∧ R.C h row x ∧ 0 ≤ i ∧ i < (xs.length : Int) ∧ (rows.flatten.drop (i.toNat * R.k)).take R.k = row ∧ i.toNat * R.k + R.k ≤ rows.flatten.length ∧ xs.length < 9223372036854775808 := by
  obtain ⟨b, rows, row, h1, h2, h3, h4, h5, h6, h7, _, h8, h9⟩ := a.open hx
  exact ⟨b, rows, row, h1, h2, h3, h4, h5, h6, h7, h8, h9, a.1⟩
theorem Rws.at2 {α : Type} {R : Rep α} {h : Heap} {rows : List (List Value)} {xs : List α} (s : Rws R h rows xs) {i : Int} {x : α} (hx : getI xs i = some x) :
    ∃ row, rows[i.toNat]? = some row ∧ R.C h row x ∧ 0 ≤ i ∧ i < (xs.length : Int) ∧ (rows.flatten.drop (i.toNat * R.k)).take R.k = row ∧ i.toNat * R.k + R.k ≤ rows.flatten.length := by
  obtain ⟨j, rfl, hj, hl⟩ := getI_some hx
  have hr : j < rows.length := by rw [s.len]; exact hl
  have hrow := List.getElem?_eq_getElem hr
  obtain ⟨g1, g2⟩ := flat_at rows j s.k hrow
  exact ⟨_, hrow, s.C j _ x hrow hj, by omega, by omega, g2, g1⟩
theorem getI_setI {α : Type} {xs : List α} {i : Int} {x : α} (h0 : 0 ≤ i) (hi : i < (xs.length : Int)) : getI (setI xs i x) i = some x := by
  unfold getI setI
  rw [if_pos h0, List.getElem?_set_self (by omega)]
end Go.Proofs.Ytcjcbcmapjcfnaa.V
