/- Regions that draw their order and write (2): one run stands for all orders.
   No condition: these are laws of the clean machine. -/
import Derived.Test.YtadfhabapgipbaaVd
namespace Go.Proofs.Ytadfhabapgipbaa.V
open Go
set_option linter.unusedVariables false
set_option linter.unusedSimpArgs false

theorem put_at {nt : Nat} {fr fr' : Fr} {d : Option Tmp} {v : Value} (h : fr.put nt d v = some fr') (t : Nat) : fr'.at t = if d = some t then v else fr.at t := by
  cases d with
  | none => simp only [Fr.put] at h; cases h; rfl
  | some d =>
    simp only [Fr.put] at h
    obtain ⟨_, h⟩ := bif_some h
    cases h
    rw [Fr.at_set]
    by_cases e : d = t
    · subst e; simp
    · rw [if_neg e, if_neg (by intro q; cases q; exact e rfl)]
theorem put_any {nt : Nat} {fr fr' : Fr} {d : Option Tmp} {v : Value} (h : fr.put nt d v = some fr') (fr2 : Fr) (u : Value) : ∃ fr3, fr2.put nt d u = some fr3 := by
  cases d with
  | none => exact ⟨_, rfl⟩
  | some d =>
    simp only [Fr.put] at h ⊢
    obtain ⟨b, h⟩ := bif_some h
    rw [b]; exact ⟨_, rfl⟩

def Eqv (fr fr2 : Fr) : Prop := ∀ t, fr.at t = fr2.at t
theorem Eqv.refl (fr : Fr) : Eqv fr fr := fun _ => rfl
theorem Eqv.symm {a b : Fr} (h : Eqv a b) : Eqv b a := fun t => (h t).symm
theorem Eqv.trans {a b c : Fr} (h : Eqv a b) (k : Eqv b c) : Eqv a c := fun t => (h t).trans (k t)
theorem Eqv.agr {a b : Fr} (h : Eqv a b) (l : List Tmp) : Agr l a b := fun t _ => h t
theorem Agr.symm {l : List Tmp} {a b : Fr} (h : Agr l a b) : Agr l b a := fun t ht => (h t ht).symm
theorem Agr.trans {l : List Tmp} {a b c : Fr} (h : Agr l a b) (k : Agr l b c) : Agr l a c := fun t ht => (h t ht).trans (k t ht)
theorem agr_put {nt : Nat} {fr fr' : Fr} {d : Option Tmp} {v : Value} (h : fr.put nt d v = some fr') {l : List Tmp} (n : ∀ t, d = some t → t ∉ l) : Agr l fr' fr := by
  intro t ht
  rw [put_at h, if_neg (fun e => n t e ht)]

/-- The same heap, block by block. -/
abbrev Hq (f h : Heap) : Prop := Msk (fun _ => false) f h
theorem Hq.refl (h : Heap) : Hq h h := ⟨rfl, rfl, rfl, (fun _ e => by cases e), fun _ _ => rfl, (fun _ e => by cases e)⟩
theorem Hq.symm {f h : Heap} (m : Hq f h) : Hq h f := ⟨m.base.symm, m.lim.symm, m.n.symm, (fun _ e => by cases e), fun b _ => (m.get b rfl).symm, (fun _ e => by cases e)⟩
theorem Hq.trans {a b c : Heap} (m : Hq a b) (k : Hq b c) : Hq a c := ⟨k.base.trans m.base, k.lim.trans m.lim, k.n.trans m.n, (fun _ e => by cases e), fun x _ => (k.get x rfl).trans (m.get x rfl), (fun _ e => by cases e)⟩

theorem allocK_readK {op : Op} (k : readK op = true) : allocK op = false := by
  cases op <;> simp only [readK] at k <;> first | (cases k; done) | rfl
theorem opS_opV {E : Env} {call : FuncId → List Value → Heap → Option (Value × Heap)} {sl : List (Nat × Nat)} {i : Nat} {fr : Fr} {h : Heap} {op : Op} (a : allocK op = false) : opS E call sl i fr h op = opV E call fr h op := by
  unfold opS; rw [a]; rfl
theorem opS_congr {E : Env} {call : FuncId → List Value → Heap → Option (Value × Heap)} {sl : List (Nat × Nat)} {i : Nat} {fr fr2 : Fr} {h : Heap} {op : Op} (a : AgrO op.operands.toList fr fr2) : opS E call sl i fr h op = opS E call sl i fr2 h op := by
  unfold opS; rw [opV_congr a]

section
variable (E : Env) (nt : Nat) (call : FuncId → List Value → Heap → Option (Value × Heap)) (ops : Array Oper) (sl : List (Nat × Nat))

def Val (i : Nat) (o : Oper) (fr : Fr) (h : Heap) (v : Value) (h' : Heap) : Prop :=
  (wantedV ops fr o = true ∧ opS E call sl i fr h o.op = some (v, h')) ∨ (wantedV ops fr o = false ∧ v = undef ∧ h' = h)
def Stp (i : Nat) (fr : Fr) (h : Heap) (fr' : Fr) (h' : Heap) : Prop :=
  ∃ o v, ops[i]? = some o ∧ Val E call ops sl i o fr h v h' ∧ fr.put nt o.dst v = some fr'
def Chk (fr : Fr) (h h' : Heap) (ck : List Nat) : Prop :=
  ∀ r ∈ ck, ∃ o, ops[r]? = some o ∧ (wantedV ops fr o = true → ∃ v, readV E fr h o.op = some v ∧ readV E fr h' o.op = some v)
def RunS : List (Nat × List Nat) → Fr → Heap → Fr → Heap → Prop
  | [], fr, h, fr', h' => Eqv fr fr' ∧ Hq h h'
  | x :: L, fr, h, fr', h' => ∃ o v h1 fr1, ops[x.1]? = some o ∧ Val E call ops sl x.1 o fr h v h1 ∧ (wantedV ops fr o = true → Chk E ops fr h h1 x.2) ∧ fr.put nt o.dst v = some fr1 ∧ RunS L fr1 h1 fr' h'

variable {E nt call ops sl}

theorem Val.congr {i : Nat} {o : Oper} {fr fr2 : Fr} {h h' : Heap} {v : Value} (c : Val E call ops sl i o fr h v h') (a : Agr (o.looksAt ops) fr fr2) : Val E call ops sl i o fr2 h v h' := by
  rcases c with ⟨c1, c2⟩ | ⟨c1, c2⟩
  · exact .inl ⟨by rw [← wantedV_congr a]; exact c1, by rw [← opS_congr (agrO_of a)]; exact c2⟩
  · exact .inr ⟨by rw [← wantedV_congr a]; exact c1, c2⟩
theorem Val.heap {i : Nat} {o : Oper} {fr : Fr} {h h' : Heap} {v : Value} (k : readK o.op = true) (c : Val E call ops sl i o fr h v h') : h' = h := by
  rcases c with ⟨_, c2⟩ | ⟨_, _, c2⟩
  · rw [opS_opV (allocK_readK k)] at c2; exact (readK_op k c2).2
  · exact c2
/-- A reading that reads no memory. -/
theorem Val.noheap {i : Nat} {o : Oper} {fr : Fr} {h h' : Heap} {v : Value} (k : readK o.op = true) (n : heapK o.op = false) (c : Val E call ops sl i o fr h v h') (h2 : Heap) : Val E call ops sl i o fr h2 v h2 := by
  rcases c with ⟨c1, c2⟩ | ⟨c1, c2, _⟩
  · rw [opS_opV (allocK_readK k)] at c2
    have := (readK_op k c2).1
    rw [readV_noheap (h2 := h2) k n] at this
    exact .inl ⟨c1, by rw [opS_opV (allocK_readK k)]; exact op_readK this⟩
  · exact .inr ⟨c1, c2, rfl⟩

theorem Chk.congr {fr fr2 : Fr} {h h' : Heap} {ck : List Nat} (c : Chk E ops fr h h' ck) (a : ∀ r ∈ ck, ∀ o, ops[r]? = some o → Agr (o.looksAt ops) fr fr2) : Chk E ops fr2 h h' ck := by
  intro r hr
  obtain ⟨o, ho, hc⟩ := c r hr
  have ag := a r hr o ho
  refine ⟨o, ho, fun w => ?_⟩
  rw [← wantedV_congr ag] at w
  obtain ⟨v, h1, h2⟩ := hc w
  exact ⟨v, by rw [← readV_congr (agrO_of ag)]; exact h1, by rw [← readV_congr (agrO_of ag)]; exact h2⟩

theorem Chk.msk {S : Nat → Bool} {fr : Fr} {h h' h2 h2' : Heap} {ck : List Nat} (c : Chk E ops fr h h' ck) (m : Msk S h h2) (m' : Msk S h' h2') : Chk E ops fr h2 h2' ck := by
  intro r hr
  obtain ⟨o, ho, hc⟩ := c r hr
  refine ⟨o, ho, fun w => ?_⟩
  obtain ⟨v, h1, h2⟩ := hc w
  exact ⟨v, m.readV h1, m'.readV h2⟩
theorem Val.msk (hF : Framed call) {S : Nat → Bool} {i : Nat} (hs : ∀ b, slotL sl i = some b → S b = false) {o : Oper} {fr : Fr} {h h' h2 : Heap} {v : Value} (c : Val E call ops sl i o fr h v h') (m : Msk S h h2) :
    ∃ h2', Val E call ops sl i o fr h2 v h2' ∧ Msk S h' h2' ∧ Kept S h2 h2' := by
  rcases c with ⟨c1, c2⟩ | ⟨c1, c2, c3⟩
  · obtain ⟨h2', e, m', k⟩ := opS_msk hF m hs c2
    exact ⟨h2', .inl ⟨c1, e⟩, m', k⟩
  · subst c3; exact ⟨h2, .inr ⟨c1, c2, rfl⟩, m, Kept.refl _ _⟩

theorem RunS.congr (hF : Framed call) : ∀ {L : List (Nat × List Nat)} {fr fr2 : Fr} {h h2 : Heap} {fr' : Fr} {h' : Heap}, Eqv fr fr2 → Hq h h2 → RunS E nt call ops sl L fr h fr' h' → RunS E nt call ops sl L fr2 h2 fr' h'
  | [], fr, fr2, h, h2, fr', h', e, m, r => ⟨e.symm.trans r.1, m.symm.trans r.2⟩
  | x :: L, fr, fr2, h, h2, fr', h', e, m, ⟨o, v, h1, fr1, r1, r2, r3, r4, r5⟩ => by
    obtain ⟨fr3, p⟩ := put_any r4 fr2 v
    obtain ⟨h2', q1, q2, _⟩ := (r2.congr (e.agr _)).msk hF (fun _ _ => rfl) m
    refine ⟨o, v, h2', fr3, r1, q1, fun w => ?_, p, RunS.congr hF (fun t => ?_) q2 r5⟩
    · rw [← wantedV_congr (e.agr _)] at w
      exact ((r3 w).congr fun _ _ _ _ => e.agr _).msk m q2
    · rw [put_at r4, put_at p, e t]

theorem chkR_spec {fr : Fr} {h h' : Heap} : ∀ {ck : List Nat}, chkR E ops fr h h' ck = true → Chk E ops fr h h' ck
  | [], _ => fun r hr => by cases hr
  | r :: rs, c => by
    simp only [chkR, Bool.and_eq_true] at c
    intro q hq
    rcases List.mem_cons.1 hq with e | hq
    · subst e
      split at c
      · rename_i o ho
        refine ⟨o, ho, fun w => ?_⟩
        have c1 := c.1
        rw [w] at c1
        simp only [Bool.not_true, Bool.false_or] at c1
        cases e : readV E fr h o.op with
        | none => rw [e] at c1; simp [same] at c1
        | some v => rw [e] at c1; exact ⟨v, rfl, same_some c1 rfl⟩
      · simp at c
    · exact chkR_spec c.2 q hq

theorem runSched_run : ∀ {L : List (Nat × List Nat)} {fr : Fr} {h : Heap} {fr' : Fr} {h' : Heap}, runSched E nt call ops sl L fr h = some (fr', h') → RunS E nt call ops sl L fr h fr' h'
  | [], fr, h, fr', h', e => by simp only [runSched] at e; cases e; exact ⟨Eqv.refl _, Hq.refl _⟩
  | (i, ck) :: L, fr, h, fr', h', e => by
    unfold runSched at e
    split at e
    · cases e
    · rename_i o ho
      cases w : wantedV ops fr o with
      | true =>
        rw [w] at e
        simp only [cond_true] at e
        split at e
        · rename_i v h1 hv
          obtain ⟨c, e⟩ := bif_some e
          split at e
          · rename_i fr1 hp
            exact ⟨o, v, h1, fr1, ho, .inl ⟨w, hv⟩, fun _ => chkR_spec c, hp, runSched_run e⟩
          · cases e
        · cases e
      | false =>
        rw [w] at e
        simp only [cond_false] at e
        split at e
        · rename_i fr1 hp
          exact ⟨o, undef, h, fr1, ho, .inr ⟨w, rfl, rfl⟩, (fun q => by rw [w] at q; cases q), hp, runSched_run e⟩
        · cases e

/-- A reading may be taken first. -/
theorem frontR (hF : Framed call) {i : Nat} {ck : List Nat} {oi : Oper} (hi : ops[i]? = some oi) (ki : readK oi.op = true) {L2 : List (Nat × List Nat)} {fr' : Fr} {h' : Heap} :
    ∀ (L1 : List (Nat × List Nat)) {fr : Fr} {h : Heap},
      (∀ x ∈ L1, ∀ ox, ops[x.1]? = some ox → ox.apart ops oi = true ∧ (readK ox.op = true → x.2 = []) ∧ (readK ox.op = false → heapK oi.op = false) ∧
        ∀ r ∈ x.2, ∀ o, ops[r]? = some o → ∀ d, oi.dst = some d → d ∉ o.looksAt ops) →
      RunS E nt call ops sl (L1 ++ (i, ck) :: L2) fr h fr' h' → ∃ fr1 h1, Stp E nt call ops sl i fr h fr1 h1 ∧ RunS E nt call ops sl (L1 ++ L2) fr1 h1 fr' h'
  | [], fr, h, _, ⟨o, v, h1, fr1, r1, r2, _, r4, r5⟩ => ⟨fr1, h1, ⟨o, v, r1, r2, r4⟩, r5⟩
  | x :: L1, fr, h, hc, ⟨ox, vx, h1, fr1, r1, r2, r3, r4, r5⟩ => by
    obtain ⟨hap, c1, c2, c3⟩ := hc x List.mem_cons_self ox r1
    obtain ⟨a1, a2, a3⟩ := Oper.apart_spec hap
    obtain ⟨fr2, h2, ⟨o', vi, q1, q2, q3⟩, q4⟩ := frontR hF hi ki L1 (fun y hy => hc y (List.mem_cons_of_mem _ hy)) r5
    rw [hi] at q1; cases q1
    have hh := q2.heap ki; subst hh
    have g1 : Agr (oi.looksAt ops) fr1 fr := agr_put r4 fun t ht => a1 t ht
    have v1 := q2.congr g1
    have v2 : Val E call ops sl i oi fr h vi h := by
      cases k : readK ox.op with
      | true => rw [r2.heap k] at v1; exact v1
      | false => exact v1.noheap ki (c2 k) h
    obtain ⟨fri, pi⟩ := put_any q3 fr vi
    have g2 : Agr (ox.looksAt ops) fri fr := agr_put pi fun t ht => a3 t ht
    obtain ⟨frix, px⟩ := put_any r4 fri vx
    refine ⟨fri, h, ⟨oi, vi, hi, v2, pi⟩, ox, vx, h2, frix, r1, r2.congr g2.symm, fun w => ?_, px, RunS.congr hF (fun t => ?_) (Hq.refl _) q4⟩
    · rw [wantedV_congr g2] at w
      exact (r3 w).congr fun r hr o ho => (agr_put pi fun t ht => c3 r hr o ho t ht).symm
    · rw [put_at q3, put_at r4, put_at px, put_at pi]
      by_cases e1 : oi.dst = some t
      · rw [if_pos e1, if_neg (fun e => a2 t e e1), if_pos e1]
      · rw [if_neg e1, if_neg e1]

/-- What writes may be taken first, ahead of readings only. -/
theorem frontE (hF : Framed call) {i : Nat} {ck : List Nat} {oi : Oper} (hi : ops[i]? = some oi) {L2 : List (Nat × List Nat)} {fr' : Fr} {h' : Heap} :
    ∀ (L1 : List (Nat × List Nat)) {fr : Fr} {h : Heap},
      (∀ x ∈ L1, ∀ ox, ops[x.1]? = some ox → ox.apart ops oi = true ∧ readK ox.op = true ∧ x.2 = [] ∧ (heapK ox.op = true → x.1 ∈ ck ∧ ∀ d, ox.dst = some d → d ∉ ox.looksAt ops)) →
      L1.Pairwise (fun x y => ∀ ox oy, ops[x.1]? = some ox → ops[y.1]? = some oy → heapK ox.op = true → ∀ d, oy.dst = some d → d ∉ ox.looksAt ops) →
      RunS E nt call ops sl (L1 ++ (i, ck) :: L2) fr h fr' h' →
      ∃ vi h1 fr1, Val E call ops sl i oi fr h vi h1 ∧ fr.put nt oi.dst vi = some fr1 ∧ RunS E nt call ops sl (L1 ++ L2) fr1 h1 fr' h' ∧
        ∃ frp, (∀ t, (∀ y ∈ L1, ∀ oy, ops[y.1]? = some oy → oy.dst ≠ some t) → frp.at t = fr.at t) ∧ (wantedV ops fr oi = true → Chk E ops frp h h1 ck)
  | [], fr, h, _, _, ⟨o, v, h1, fr1, r1, r2, r3, r4, r5⟩ => by
    rw [hi] at r1; cases r1
    exact ⟨v, h1, fr1, r2, r4, r5, fr, fun _ _ => rfl, r3⟩
  | x :: L1, fr, h, hc, hp, ⟨ox, vx, h1, fr1, r1, r2, r3, r4, r5⟩ => by
    obtain ⟨hap, kx, c1, c2⟩ := hc x List.mem_cons_self ox r1
    obtain ⟨a1, a2, a3⟩ := Oper.apart_spec hap
    have hh := r2.heap kx; subst hh
    obtain ⟨hp1, hp2⟩ := List.pairwise_cons.1 hp
    obtain ⟨vi, h2, fr2, q1, q2, q3, frp, q4, q5⟩ := frontE hF hi L1 (fun y hy => hc y (List.mem_cons_of_mem _ hy)) hp2 r5
    have g1 : Agr (oi.looksAt ops) fr1 fr := agr_put r4 fun t ht => a1 t ht
    have v1 := q1.congr g1
    obtain ⟨fri, pi⟩ := put_any q2 fr vi
    have g2 : Agr (ox.looksAt ops) fri fr := agr_put pi fun t ht => a3 t ht
    obtain ⟨frix, px⟩ := put_any r4 fri vx
    have ww : wantedV ops fr1 oi = wantedV ops fr oi := wantedV_congr g1
    have vx2 : Val E call ops sl x.1 ox fr h2 vx h2 := by
      cases hk : heapK ox.op with
      | false => exact r2.noheap kx hk h2
      | true =>
        obtain ⟨m, self⟩ := c2 hk
        rcases v1 with ⟨w1, w2⟩ | ⟨w1, w2, w3⟩
        · have ch := q5 (by rw [ww]; exact w1)
          have ag : Agr (ox.looksAt ops) frp fr := by
            intro t ht
            rw [q4 t fun y hy oy hoy hd => hp1 y hy ox oy r1 hoy hk t hd ht, put_at r4, if_neg (fun e => self t e ht)]
          rcases r2 with ⟨u1, u2⟩ | ⟨u1, u2, _⟩
          · obtain ⟨o', ho', hr⟩ := ch x.1 m
            rw [r1] at ho'; cases ho'
            obtain ⟨v', e1, e2⟩ := hr (by rw [wantedV_congr ag]; exact u1)
            rw [readV_congr (agrO_of ag)] at e1 e2
            rw [opS_opV (allocK_readK kx)] at u2
            have e3 := (readK_op kx u2).1
            rw [e1] at e3
            cases e3
            exact .inl ⟨u1, by rw [opS_opV (allocK_readK kx)]; exact op_readK e2⟩
          · exact .inr ⟨u1, u2, rfl⟩
        · rw [w3]; exact r2
    refine ⟨vi, h2, fri, v1, pi, ⟨ox, vx, h2, frix, r1, vx2.congr g2.symm, fun _ => ?_, px, RunS.congr hF (fun t => ?_) (Hq.refl _) q3⟩, frp, fun t ht => ?_, fun w => q5 (by rw [ww]; exact w)⟩
    · rw [c1]; intro r hr; cases hr
    · rw [put_at q2, put_at r4, put_at px, put_at pi]
      by_cases e1 : oi.dst = some t
      · rw [if_pos e1, if_neg (fun e => a2 t e e1), if_pos e1]
      · rw [if_neg e1, if_neg e1]
    · rw [q4 t fun y hy => ht y (List.mem_cons_of_mem _ hy), put_at r4, if_neg (ht x List.mem_cons_self ox r1)]

/-- A number that is laid by stays so, and all goes as it would if it were there. -/
theorem Val.dead (hF : Framed call) {i b : Nat} (hs : ∀ c, slotL sl i = some c → c ≠ b) {o : Oper} {fr : Fr} {h h' : Heap} {v : Value} (c : Val E call ops sl i o fr h v h') (hd : h.get b = some .dead) (hn : b < h.n) :
    h'.get b = some .dead ∧ b < h'.n ∧ ∀ x, ∃ h2', Val E call ops sl i o fr (h.set b x) v h2' ∧ Msk (fun y => Nat.beq y b) h (h.set b x) ∧ Msk (fun y => Nat.beq y b) h' h2' ∧ Hq (h'.set b x) h2' := by
  have mk : ∀ x, Msk (fun y => Nat.beq y b) h (h.set b x) := fun x =>
    ⟨rfl, rfl, rfl, fun y e => by rw [Nat.eq_of_beq_eq_true e]; exact hd, fun y e => by rw [get_set, if_neg (fun q => by rw [q, Nat.beq_refl] at e; cases e)], fun y e => by rw [Nat.eq_of_beq_eq_true e]; exact hn⟩
  have key : ∀ x, ∃ h2', Val E call ops sl i o fr (h.set b x) v h2' ∧ Msk (fun y => Nat.beq y b) h' h2' ∧ Kept (fun y => Nat.beq y b) (h.set b x) h2' := fun x =>
    c.msk hF (fun d hd' => by
      cases e : Nat.beq d b with
      | false => rfl
      | true => exact absurd (Nat.eq_of_beq_eq_true e) (hs d hd')) (mk x)
  obtain ⟨_, _, m0, _⟩ := key .dead
  refine ⟨m0.dead b (Nat.beq_refl b), m0.lt b (Nat.beq_refl b), fun x => ?_⟩
  obtain ⟨h2', q1, q2, q3⟩ := key x
  refine ⟨h2', q1, mk x, q2, ⟨q2.base, q2.lim, q2.n, (fun _ e => by cases e), fun y _ => ?_, (fun _ e => by cases e)⟩⟩
  rw [get_set]
  by_cases e : b = y
  · subst e
    rw [if_pos rfl, q3 b (Nat.beq_refl b), get_set, if_pos rfl]
  · rw [if_neg e]
    exact q2.get y (by
      cases q : Nat.beq y b with
      | false => rfl
      | true => exact absurd (Nat.eq_of_beq_eq_true q).symm e)

/-- A new variable may come first. -/
theorem frontA (hF : Framed call) {i : Nat} {ck : List Nat} {oi : Oper} (hi : ops[i]? = some oi) (ai : allocK oi.op = true) {b : Nat} (hb : slotL sl i = some b) {L2 : List (Nat × List Nat)} {fr' : Fr} {h' : Heap} :
    ∀ (L1 : List (Nat × List Nat)) {fr : Fr} {h : Heap},
      (∀ x ∈ L1, ∀ ox, ops[x.1]? = some ox → ox.apart ops oi = true ∧ (∀ c, slotL sl x.1 = some c → c ≠ b) ∧
        ∀ r ∈ x.2, ∀ o, ops[r]? = some o → ∀ d, oi.dst = some d → d ∉ o.looksAt ops) →
      h.get b = some .dead → b < h.n →
      RunS E nt call ops sl (L1 ++ (i, ck) :: L2) fr h fr' h' → ∃ fr1 h1, Stp E nt call ops sl i fr h fr1 h1 ∧ RunS E nt call ops sl (L1 ++ L2) fr1 h1 fr' h'
  | [], fr, h, _, _, _, ⟨o, v, h1, fr1, r1, r2, _, r4, r5⟩ => ⟨fr1, h1, ⟨o, v, r1, r2, r4⟩, r5⟩
  | x :: L1, fr, h, hc, hd, hn, ⟨ox, vx, h1, fr1, r1, r2, r3, r4, r5⟩ => by
    obtain ⟨hap, c1, c3⟩ := hc x List.mem_cons_self ox r1
    obtain ⟨a1, a2, a3⟩ := Oper.apart_spec hap
    obtain ⟨d1, d2, d3⟩ := r2.dead hF c1 hd hn
    obtain ⟨fr2, h2, ⟨o', vi, q1, q2, q3⟩, q4⟩ := frontA hF hi ai hb L1 (fun y hy => hc y (List.mem_cons_of_mem _ hy)) d1 d2 r5
    rw [hi] at q1; cases q1
    have g1 : Agr (oi.looksAt ops) fr1 fr := agr_put r4 fun t ht => a1 t ht
    have v1 := q2.congr g1
    obtain ⟨fri, pi⟩ := put_any q3 fr vi
    have g2 : Agr (ox.looksAt ops) fri fr := agr_put pi fun t ht => a3 t ht
    obtain ⟨frix, px⟩ := put_any r4 fri vx
    have ee : Eqv fr2 frix := fun t => by
      rw [put_at q3, put_at r4, put_at px, put_at pi]
      by_cases e1 : oi.dst = some t
      · rw [if_pos e1, if_neg (fun e => a2 t e e1), if_pos e1]
      · rw [if_neg e1, if_neg e1]
    rcases v1 with ⟨w1, w2⟩ | ⟨w1, w2, w3⟩
    · unfold opS at w2
      rw [ai, hb] at w2
      simp only [cond_true] at w2
      obtain ⟨x0, e1, e2⟩ : ∃ x0, rsvV E h b oi.op = some (vi, h.set b x0) ∧ h2 = h1.set b x0 := by
        revert w2 ai
        generalize oi.op = op
        intro ai w2
        cases op <;> simp only [rsvV] at w2 ⊢ <;> try (cases w2; done)
        split at w2
        · rename_i z hz
          rw [d1] at w2
          cases w2
          exact ⟨_, by rw [hd], rfl⟩
        · cases w2
      obtain ⟨h2', p1, p2, p3, p4⟩ := d3 x0
      refine ⟨fri, h.set b x0, ⟨oi, vi, hi, .inl ⟨w1, ?_⟩, pi⟩, ox, vx, h2', frix, r1, p1.congr g2.symm, fun w => ?_, px, RunS.congr hF ee (by rw [e2]; exact p4) q4⟩
      · unfold opS
        rw [ai, hb]
        exact e1
      · rw [wantedV_congr g2] at w
        exact ((r3 w).msk p2 p3).congr fun r hr o ho => (agr_put pi fun t ht => c3 r hr o ho t ht).symm
    · subst w3
      refine ⟨fri, h, ⟨oi, vi, hi, .inr ⟨w1, w2, rfl⟩, pi⟩, ox, vx, h2, frix, r1, r2.congr g2.symm, fun w => ?_, px, RunS.congr hF ee (Hq.refl _) q4⟩
      rw [wantedV_congr g2] at w
      exact (r3 w).congr fun r hr o ho => (agr_put pi fun t ht => c3 r hr o ho t ht).symm

/-! ### All orders -/
inductive W (ops : Array Oper) : Nat → Nat → Prop
  | one {j i : Nat} {o : Oper} : ops[j]? = some o → i ∈ afters o → W ops j i
  | step {j e i : Nat} {o : Oper} : ops[j]? = some o → e ∈ afters o → W ops e i → W ops j i

variable (ops) in
def PairOK (x k : Nat × List Nat) : Prop :=
  ∀ ox ok, ops[x.1]? = some ox → ops[k.1]? = some ok →
    (x.1 ∉ afters ok → ox.apart ops ok = true) ∧
    (readK ox.op = false → readK ok.op = false → allocK ok.op = false → W ops k.1 x.1) ∧
    (readK ox.op = false → heapK ok.op = true → W ops k.1 x.1) ∧
    (heapK ox.op = true → readK ok.op = false → allocK ok.op = false → W ops k.1 x.1 ∨ x.1 ∈ k.2) ∧
    (heapK ox.op = true → ∀ d, ok.dst = some d → d ∉ ox.looksAt ops) ∧
    (∀ r ∈ x.2, ∀ o, ops[r]? = some o → ∀ d, ok.dst = some d → d ∉ o.looksAt ops)

variable (ops) in
def Vld : (Nat → Prop) → List (Nat × List Nat) → Prop
  | _, [] => True
  | S, x :: L => (∃ o, ops[x.1]? = some o ∧ ∀ e ∈ afters o, S e) ∧ Vld (fun e => S e ∨ e = x.1) L

theorem Vld.mono : ∀ {L : List (Nat × List Nat)} {S T : Nat → Prop}, (∀ e, S e → T e) → Vld ops S L → Vld ops T L
  | [], _, _, _, _ => trivial
  | x :: L, S, T, h, ⟨⟨o, ho, ha⟩, v⟩ => ⟨⟨o, ho, fun e he => h e (ha e he)⟩, Vld.mono (fun e he => he.imp (h e) id) v⟩
theorem Vld.front {i : Nat × List Nat} : ∀ {L1 L2 : List (Nat × List Nat)} {S : Nat → Prop}, Vld ops S (L1 ++ i :: L2) → Vld ops (fun e => S e ∨ e = i.1) (L1 ++ L2)
  | [], L2, S, ⟨_, v⟩ => v
  | x :: L1, L2, S, ⟨⟨o, ho, ha⟩, v⟩ => ⟨⟨o, ho, fun e he => .inl (ha e he)⟩, Vld.mono (fun e he => by
      rcases he with (h | h) | h
      · exact .inl (.inl h)
      · exact .inr h
      · exact .inl (.inr h)) (Vld.front v)⟩

variable (ops) in
structure Inv (listed : Array Bool) (L : List (Nat × List Nat)) : Prop where
  size : listed.size = ops.size
  mem : ∀ j, j < ops.size → (listed.getD j true = false ↔ j ∈ L.map (·.1))
  nodup : (L.map (·.1)).Nodup
  closed : ∀ j o, ops[j]? = some o → listed.getD j false = true → ∀ e ∈ afters o, listed.getD e false = true
  valid : Vld ops (fun e => listed.getD e false = true) L
  pair : L.Pairwise (PairOK ops)
  single : ∀ x ∈ L, ∃ o, ops[x.1]? = some o ∧ (readK o.op = true → x.2 = []) ∧ (heapK o.op = true → ∀ d, o.dst = some d → d ∉ o.looksAt ops)

theorem getD_ff {listed : Array Bool} {j : Nat} (h : listed.getD j true = false) : listed.getD j false = false := by
  rcases Nat.lt_or_ge j listed.size with q | q
  · simp [q] at h ⊢; exact h
  · simp [Array.getElem?_eq_none q] at h

theorem mem_ready' {j : Nat} {listed : Array Bool} : j ∈ Region.ready .any ops listed ↔ listed.getD j true = false ∧ ∃ o, ops[j]? = some o ∧ ∀ e ∈ afters o, listed.getD e false = true := by
  rw [mem_ready]
  constructor
  · rintro ⟨h0, o, ho, h⟩
    refine ⟨h0, o, ho, fun e he => ?_⟩
    obtain ⟨g, hg, rfl⟩ := List.mem_map.1 he
    obtain ⟨hg, hb⟩ := List.mem_filter.1 hg
    exact h g (by simpa using hg) hb
  · rintro ⟨h0, o, ho, h⟩
    refine ⟨h0, o, ho, fun e he hb => h e.on ?_⟩
    exact List.mem_map.2 ⟨e, List.mem_filter.2 ⟨by simpa using he, hb⟩, rfl⟩

theorem W.listed {listed : Array Bool} (cl : ∀ j o, ops[j]? = some o → listed.getD j false = true → ∀ e ∈ afters o, listed.getD e false = true) {j i : Nat} (w : W ops j i) :
    ∀ o, ops[j]? = some o → (∀ e ∈ afters o, listed.getD e false = true) → listed.getD i false = true := by
  have key : ∀ {j i : Nat}, W ops j i → listed.getD j false = true → listed.getD i false = true := by
    intro j i w
    induction w with
    | one ho he => intro h; exact cl _ _ ho h _ he
    | step ho he _ ih => intro h; exact ih (cl _ _ ho h _ he)
  intro o ho h
  cases w with
  | one ho' he => rw [ho] at ho'; cases ho'; exact h _ he
  | step ho' he w => rw [ho] at ho'; cases ho'; exact key w (h _ he)

variable (E nt call ops sl) in
def AllOrd : Nat → Array Bool → Fr → Heap → Fr → Heap → Prop
  | 0, listed, fr, h, fr', h' => Region.ready .any ops listed = [] ∧ Eqv fr fr' ∧ Hq h h'
  | n + 1, listed, fr, h, fr', h' => (Region.ready .any ops listed = [] → Eqv fr fr' ∧ Hq h h') ∧
    ∀ i ∈ Region.ready .any ops listed, ∃ fr1 h1, Stp E nt call ops sl i fr h fr1 h1 ∧ AllOrd n (listed.setIfInBounds i true) fr1 h1 fr' h'

theorem allOrd (hF : Framed call) (inj : ∀ i j b, slotL sl i = some b → slotL sl j = some b → i = j) (tot : ∀ (i : Nat) (o : Oper), ops[i]? = some o → allocK o.op = true → ∃ b, slotL sl i = some b) {fr' : Fr} {h' : Heap} :
    ∀ (n : Nat) {L : List (Nat × List Nat)} {listed : Array Bool} {fr : Fr} {h : Heap}, L.length = n → Inv ops listed L → (∀ x ∈ L, ∀ b, slotL sl x.1 = some b → h.get b = some .dead ∧ b < h.n) →
      RunS E nt call ops sl L fr h fr' h' → AllOrd E nt call ops sl n listed fr h fr' h'
  | 0, L, listed, fr, h, hl, I, sd, r => by
    have : L = [] := List.length_eq_zero_iff.1 hl
    subst this
    refine ⟨List.eq_nil_iff_forall_not_mem.2 fun j hj => ?_, r⟩
    obtain ⟨h0, o, ho, _⟩ := mem_ready'.1 hj
    have := (I.mem j (Array.getElem?_eq_some_iff.1 ho).1).1 h0
    simp at this
  | n + 1, L, listed, fr, h, hl, I, sd, r => by
    refine ⟨fun h0 => ?_, fun i hi => ?_⟩
    · cases L with
      | nil => simp at hl
      | cons x L =>
        obtain ⟨⟨o, ho, ha⟩, _⟩ := I.valid
        have hx := (I.mem x.1 (Array.getElem?_eq_some_iff.1 ho).1).2 (by simp)
        have : x.1 ∈ Region.ready .any ops listed := mem_ready'.2 ⟨hx, o, ho, ha⟩
        rw [h0] at this; cases this
    · obtain ⟨h0, oi, hoi, ha⟩ := mem_ready'.1 hi
      have hlt := (Array.getElem?_eq_some_iff.1 hoi).1
      obtain ⟨x, hx, hxi⟩ := List.mem_map.1 ((I.mem i hlt).1 h0)
      obtain ⟨L1, L2, rfl⟩ := List.append_of_mem hx
      obtain ⟨i', ck⟩ := x
      simp only at hxi
      subst hxi
      have hpw := List.pairwise_append.1 I.pair
      have un : ∀ x ∈ L1, listed.getD x.1 false = false := by
        intro x hx1
        obtain ⟨o, ho, _⟩ := I.single x (List.mem_append_left _ hx1)
        exact getD_ff ((I.mem x.1 (Array.getElem?_eq_some_iff.1 ho).1).2 (List.mem_map.2 ⟨x, List.mem_append_left _ hx1, rfl⟩))
      have noW : ∀ x ∈ L1, ¬ W ops i' x.1 := by
        intro x hx1 w
        have := w.listed I.closed oi hoi ha
        rw [un x hx1] at this; cases this
      have apt : ∀ x ∈ L1, ∀ ox, ops[x.1]? = some ox → ox.apart ops oi = true := by
        intro x hx1 ox hox
        refine (hpw.2.2 x hx1 _ List.mem_cons_self ox oi hox hoi).1 fun hm => ?_
        have := ha _ hm
        rw [un x hx1] at this; cases this
      have sg : ∀ x ∈ L1, ∀ ox, ops[x.1]? = some ox → (readK ox.op = true → x.2 = []) ∧ (heapK ox.op = true → ∀ d, ox.dst = some d → d ∉ ox.looksAt ops) := by
        intro x hx1 ox hox
        obtain ⟨o, ho, q⟩ := I.single x (List.mem_append_left _ hx1)
        rw [hox] at ho; cases ho; exact q
      have nd0 := I.nodup
      simp only [List.map_append, List.map_cons] at nd0
      have nd3' : ∀ x ∈ L1, x.1 = i' → False := fun x hx1 e => (List.nodup_append.1 nd0).2.2 x.1 (List.mem_map.2 ⟨x, hx1, rfl⟩) i' List.mem_cons_self e
      have nd4' : ∀ x ∈ L2, x.1 = i' → False := fun x hx1 e => (List.nodup_cons.1 (List.nodup_append.1 nd0).2.1).1 (List.mem_map.2 ⟨x, hx1, e⟩)
      have step : ∃ fr1 h1, Stp E nt call ops sl i' fr h fr1 h1 ∧ RunS E nt call ops sl (L1 ++ L2) fr1 h1 fr' h' := by
        cases ki : readK oi.op with
        | true =>
          refine frontR hF hoi ki L1 (fun x hx1 ox hox => ⟨apt x hx1 ox hox, (sg x hx1 ox hox).1, fun kx => ?_, ?_⟩) r
          · cases hk : heapK oi.op with
            | false => rfl
            | true => exact absurd ((hpw.2.2 x hx1 _ List.mem_cons_self ox oi hox hoi).2.2.1 kx hk) (noW x hx1)
          · exact (hpw.2.2 x hx1 _ List.mem_cons_self ox oi hox hoi).2.2.2.2.2
        | false =>
         cases ai : allocK oi.op with
         | true =>
          obtain ⟨b, hb⟩ := tot _ _ hoi ai
          obtain ⟨d1, d2⟩ := sd _ hx b hb
          refine frontA hF hoi ai hb L1 (fun x hx1 ox hox => ⟨apt x hx1 ox hox, fun c hc e => ?_, (hpw.2.2 x hx1 _ List.mem_cons_self ox oi hox hoi).2.2.2.2.2⟩) d1 d2 r
          subst e
          have := inj _ _ _ hc hb
          exact nd3' x hx1 this
         | false =>
          have rk : ∀ x ∈ L1, ∀ ox, ops[x.1]? = some ox → readK ox.op = true := by
            intro x hx1 ox hox
            cases k : readK ox.op with
            | true => rfl
            | false => exact absurd ((hpw.2.2 x hx1 _ List.mem_cons_self ox oi hox hoi).2.1 k ki ai) (noW x hx1)
          obtain ⟨vi, h1, fr1, q1, q2, q3, _⟩ := frontE hF hoi L1 (fun x hx1 ox hox => ⟨apt x hx1 ox hox, rk x hx1 ox hox, (sg x hx1 ox hox).1 (rk x hx1 ox hox), fun hk => ⟨((hpw.2.2 x hx1 _ List.mem_cons_self ox oi hox hoi).2.2.2.1 hk ki ai).resolve_left (noW x hx1), (sg x hx1 ox hox).2 hk⟩⟩)
            (hpw.1.imp fun {x y} h ox oy hox hoy hk => (h ox oy hox hoy).2.2.2.2.1 hk) r
          exact ⟨fr1, h1, ⟨oi, vi, hoi, q1, q2⟩, q3⟩
      obtain ⟨fr1, h1, s1, s2⟩ := step
      refine ⟨fr1, h1, s1, allOrd hF inj tot n (by simp at hl ⊢; omega) ?_ ?_ s2⟩
      rotate_left
      · intro x hx2 b hb
        obtain ⟨o', v', t1, t2, t3⟩ := s1
        have xm : x ∈ L1 ++ (i', ck) :: L2 := by
          rcases List.mem_append.1 hx2 with q | q
          · exact List.mem_append_left _ q
          · exact List.mem_append_right _ (List.mem_cons_of_mem _ q)
        obtain ⟨d1, d2⟩ := sd x xm b hb
        have ne : ∀ c, slotL sl i' = some c → c ≠ b := by
          intro c hc e
          subst e
          have e := inj _ _ _ hb hc
          rcases List.mem_append.1 hx2 with q | q
          · exact nd3' x q e
          · exact nd4' x q e
        obtain ⟨g1, g2, _⟩ := t2.dead hF ne d1 d2
        exact ⟨g1, g2⟩
      have sub : (L1 ++ L2).Sublist (L1 ++ (i', ck) :: L2) := List.Sublist.append_left (List.sublist_cons_self _ _) _
      have lti : i' < listed.size := by rw [I.size]; exact hlt
      have nd := I.nodup
      simp only [List.map_append, List.map_cons] at nd
      obtain ⟨nd1, nd2, nd3⟩ := List.nodup_append.1 nd
      refine ⟨by simp [I.size], fun j hj => ?_, I.nodup.sublist (sub.map _), fun j o ho hj e he => ?_, ?_, I.pair.sublist sub, fun x hx => I.single x (sub.subset hx)⟩
      · by_cases e : i' = j
        · subst e
          have e1 : (listed.setIfInBounds i' true).getD i' true = true := by simp [lti]
          rw [e1]
          constructor
          · intro q; cases q
          · intro q
            exfalso
            simp only [List.map_append, List.mem_append] at q
            rcases q with q | q
            · exact nd3 _ q _ List.mem_cons_self rfl
            · exact (List.nodup_cons.1 nd2).1 q
        · rw [getD_set_ne true e, I.mem j hj]
          simp only [List.map_append, List.map_cons, List.mem_append, List.mem_cons]
          constructor
          · rintro (q | q | q)
            · exact .inl q
            · exact absurd q.symm e
            · exact .inr q
          · rintro (q | q)
            · exact .inl q
            · exact .inr (.inr q)
      · by_cases e2 : i' = j
        · subst e2
          rw [hoi] at ho; cases ho
          exact getD_set_true (ha e he)
        · rw [getD_set_ne false e2] at hj
          exact getD_set_true (I.closed j o ho hj e he)
      · refine Vld.mono (fun e he => ?_) (Vld.front I.valid)
        rcases he with he | he
        · exact getD_set_true he
        · simp only at he
          subst he; simp [lti]
end

/-! ### The check of an order, closed -/
def noDst (ops : Array Oper) (k x : Oper) : Bool := match k.dst with
  | none => true
  | some d => !(x.looksAt ops).contains d
theorem noDst_spec {ops : Array Oper} {k x : Oper} (h : noDst ops k x = true) : ∀ d, k.dst = some d → d ∉ x.looksAt ops := by
  intro d hd
  simp only [noDst, hd] at h
  simpa using h

def okPair (ops : Array Oper) (t : Nat) (ok : Oper) (ck : List Nat) (x : Nat × List Nat) : Bool := match ops[x.1]? with
  | none => false
  | some ox =>
    ((afters ok).any (Nat.beq x.1) || ox.apart ops ok) && (readK ox.op || readK ok.op || allocK ok.op || hasBit t x.1) && (readK ox.op || !heapK ok.op || hasBit t x.1) &&
    (!heapK ox.op || readK ok.op || allocK ok.op || hasBit t x.1 || ck.any (Nat.beq x.1)) && (!heapK ox.op || noDst ops ok ox) &&
    x.2.all (fun r => match ops[r]? with | some o => noDst ops ok o | none => true)

def chkL (ops : Array Oper) : List (Nat × List Nat) → List (Nat × Nat) → List (Nat × List Nat) → Bool
  | _, _, [] => true
  | done, T, (j, ck) :: r => match ops[j]? with
    | none => false
    | some o =>
      !(done.any fun x => Nat.beq j x.1) && (afters o).all (fun e => done.any fun x => Nat.beq e x.1) && (!readK o.op || ck.isEmpty) && (!heapK o.op || noDst ops o o) &&
      done.all (okPair ops (maskT T (afters o)) o ck) && chkL ops (done ++ [(j, ck)]) ((j, maskT T (afters o)) :: T) r

def schedChk (ops : Array Oper) (L : List (Nat × List Nat)) : Bool :=
  Nat.beq L.length ops.size && ((List.range ops.size).all fun j => L.any fun x => Nat.beq j x.1) && chkL ops [] [] L
def schedOK (ops : Array Oper) : Bool := schedChk ops (sched ops)

theorem hasBit_test (m i : Nat) : hasBit m i = m.testBit i := by
  unfold hasBit Nat.testBit
  show Nat.beq ((m >>> i) &&& 1) 1 = _
  rw [Nat.and_comm]
  generalize hx : 1 &&& (m >>> i) = x
  have : x < 2 := by
    rw [← hx, Nat.and_comm, Nat.and_one_is_mod]; omega
  match x, this with
  | 0, _ => rfl
  | 1, _ => rfl
theorem hasBit_zero (i : Nat) : hasBit 0 i = false := by rw [hasBit_test]; simp
theorem hasBit_lor (a b i : Nat) : hasBit (Nat.lor a b) i = (hasBit a i || hasBit b i) := by
  rw [hasBit_test, hasBit_test, hasBit_test]; exact Nat.testBit_or a b i
theorem hasBit_add (m e i : Nat) : hasBit (addBit m e) i = (hasBit m i || decide (e = i)) := by
  unfold addBit
  rw [hasBit_lor, hasBit_test (Nat.shiftLeft 1 e)]
  congr 1
  show (1 <<< e).testBit i = _
  rw [Nat.one_shiftLeft, Nat.testBit_two_pow]

section
variable {ops : Array Oper}
theorem anyBeq {l : List Nat} {i : Nat} (h : l.any (Nat.beq i) = true) : i ∈ l := by
  obtain ⟨x, hx, e⟩ := List.any_eq_true.1 h
  rw [Nat.eq_of_beq_eq_true e]; exact hx
theorem anyBeq1 {l : List (Nat × List Nat)} {i : Nat} : (l.any fun x => Nat.beq i x.1) = true ↔ i ∈ l.map (·.1) := by
  constructor
  · intro h
    obtain ⟨x, hx, e⟩ := List.any_eq_true.1 h
    exact List.mem_map.2 ⟨x, hx, (Nat.eq_of_beq_eq_true e).symm⟩
  · intro h
    obtain ⟨x, hx, e⟩ := List.mem_map.1 h
    exact List.any_eq_true.2 ⟨x, hx, by rw [e]; exact Nat.beq_refl i⟩

def TOK (ops : Array Oper) (T : List (Nat × Nat)) : Prop := ∀ j i, hasBit (lookT T j) i = true → W ops j i
theorem maskT_ok {T : List (Nat × Nat)} (hT : TOK ops T) {j : Nat} {o : Oper} (ho : ops[j]? = some o) : ∀ (l : List Nat), (∀ e ∈ l, e ∈ afters o) → ∀ i, hasBit (maskT T l) i = true → W ops j i
  | [], _, i, h => by rw [maskT, hasBit_zero] at h; cases h
  | e :: r, hl, i, h => by
    rw [maskT, hasBit_lor, hasBit_add, Bool.or_eq_true, Bool.or_eq_true] at h
    rcases h with (h | h) | h
    · exact .step ho (hl e List.mem_cons_self) (hT e i h)
    · exact .one ho (by have := of_decide_eq_true h; subst this; exact hl e List.mem_cons_self)
    · exact maskT_ok hT ho r (fun e he => hl e (List.mem_cons_of_mem _ he)) i h
theorem TOK.cons {T : List (Nat × Nat)} (hT : TOK ops T) {j : Nat} {o : Oper} (ho : ops[j]? = some o) : TOK ops ((j, maskT T (afters o)) :: T) := by
  intro k i h
  unfold lookT at h
  cases e : Nat.beq j k with
  | true =>
    rw [e] at h
    have := Nat.eq_of_beq_eq_true e
    subst this
    exact maskT_ok hT ho _ (fun _ h => h) i h
  | false => rw [e] at h; exact hT k i h

theorem okPair_spec {T : List (Nat × Nat)} (hT : TOK ops T) {j : Nat} {o : Oper} (ho : ops[j]? = some o) {ck : List Nat} {x : Nat × List Nat} (h : okPair ops (maskT T (afters o)) o ck x = true) : PairOK ops x (j, ck) := by
  intro ox ok hox hok
  simp only at hok
  rw [ho] at hok; cases hok
  unfold okPair at h
  rw [hox] at h
  simp only [Bool.and_eq_true] at h
  obtain ⟨⟨⟨⟨⟨h1, h2⟩, h3⟩, h4⟩, h5⟩, h6⟩ := h
  have bit : hasBit (maskT T (afters o)) x.1 = true → W ops j x.1 := maskT_ok hT ho _ (fun _ h => h) _
  refine ⟨fun n => ?_, fun a b c => ?_, fun a b => ?_, fun a b c => ?_, fun a => ?_, fun r hr q hq => ?_⟩
  · rcases (Bool.or_eq_true _ _).mp h1 with h | h
    · exact absurd (anyBeq h) n
    · exact h
  · rw [a, b, c] at h2; exact bit (by simpa using h2)
  · rw [a, b] at h3; exact bit (by simpa using h3)
  · rw [a, b, c] at h4
    simp only [Bool.not_true, Bool.false_or] at h4
    rcases (Bool.or_eq_true _ _).mp h4 with h | h
    · exact .inl (bit h)
    · exact .inr (anyBeq h)
  · rw [a] at h5; exact noDst_spec (by simpa using h5)
  · have := List.all_eq_true.1 h6 r hr
    rw [hq] at this
    exact noDst_spec this

theorem chkL_spec : ∀ (L done : List (Nat × List Nat)) (T : List (Nat × Nat)), TOK ops T → chkL ops done T L = true →
    (∀ x ∈ done, ∀ y ∈ L, PairOK ops x y ∧ x.1 ≠ y.1) ∧ L.Pairwise (PairOK ops) ∧ (L.map (·.1)).Nodup ∧ Vld ops (fun e => e ∈ done.map (·.1)) L ∧
    (∀ x ∈ L, ∃ o, ops[x.1]? = some o ∧ (readK o.op = true → x.2 = []) ∧ (heapK o.op = true → ∀ d, o.dst = some d → d ∉ o.looksAt ops))
  | [], done, T, _, _ => ⟨(fun _ _ _ h => by cases h), List.Pairwise.nil, List.nodup_nil, trivial, (fun _ h => by cases h)⟩
  | (j, ck) :: r, done, T, hT, h => by
    unfold chkL at h
    split at h
    · cases h
    · rename_i o ho
      simp only [Bool.and_eq_true] at h
      obtain ⟨⟨⟨⟨⟨h1, h2⟩, h3⟩, h4⟩, h5⟩, h6⟩ := h
      obtain ⟨k1, k2, k3, k4, k5⟩ := chkL_spec r _ _ (hT.cons ho) h6
      have dn : ∀ x ∈ done, PairOK ops x (j, ck) ∧ x.1 ≠ j := by
        intro x hx
        refine ⟨okPair_spec hT ho (List.all_eq_true.1 h5 x hx), fun e => ?_⟩
        have : (done.any fun x => Nat.beq j x.1) = true := List.any_eq_true.2 ⟨x, hx, by rw [e]; exact Nat.beq_refl j⟩
        rw [this] at h1; cases h1
      refine ⟨fun x hx y hy => ?_, List.pairwise_cons.2 ⟨fun y hy => (k1 (j, ck) (by simp) y hy).1, k2⟩, ?_, ⟨⟨o, ho, fun e he => ?_⟩, ?_⟩, fun x hx => ?_⟩
      · rcases List.mem_cons.1 hy with rfl | hy
        · exact dn x hx
        · exact k1 x (List.mem_append_left _ hx) y hy
      · rw [List.map_cons, List.nodup_cons]
        refine ⟨fun hm => ?_, k3⟩
        obtain ⟨y, hy, e⟩ := List.mem_map.1 hm
        exact (k1 (j, ck) (by simp) y hy).2 e.symm
      · exact anyBeq1.1 (List.all_eq_true.1 h2 e he)
      · refine Vld.mono (fun e he => ?_) k4
        simp only [List.map_append, List.mem_append, List.map_cons, List.map_nil, List.mem_singleton] at he
        exact he
      · rcases List.mem_cons.1 hx with rfl | hx
        · refine ⟨o, ho, fun k => ?_, fun k => ?_⟩
          · rw [k] at h3; simpa using h3
          · rw [k] at h4; exact noDst_spec (by simpa using h4)
        · exact k5 x hx

theorem schedChk_inv {L : List (Nat × List Nat)} (h : schedChk ops L = true) : L.length = ops.size ∧ Inv ops (Array.replicate ops.size false) L := by
  unfold schedChk at h
  simp only [Bool.and_eq_true] at h
  obtain ⟨⟨h1, h2⟩, h3⟩ := h
  obtain ⟨_, k2, k3, k4, k5⟩ := chkL_spec L [] [] (fun j i h => by rw [lookT, hasBit_zero] at h; cases h) h3
  refine ⟨Nat.eq_of_beq_eq_true h1, by simp, fun j hj => ?_, k3, fun j o ho hl => ?_, Vld.mono (fun e he => ?_) k4, k2, k5⟩
  · constructor
    · intro _; exact anyBeq1.1 (List.all_eq_true.1 h2 j (List.mem_range.2 hj))
    · intro _; simp [hj]
  · exfalso
    by_cases q : j < ops.size
    · simp [q] at hl
    · have := (Array.getElem?_eq_some_iff.1 ho).1; omega
  · simp at he
end

end Go.Proofs.Ytadfhabapgipbaa.V
