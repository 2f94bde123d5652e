/- THE CLEAN MACHINE IS RIGHT: what it says of a call, the model's call does.
   Conditions: of the program: SideOK (each one closed fact by the kernel, or a contract). -/
import Derived.Test.YtadfhabapgipbaaV14
namespace Go.Proofs.Ytadfhabapgipbaa.V
open Go
set_option linter.unusedVariables false
set_option linter.unusedSimpArgs false

theorem at_bool {β : Inj} {nt : Nat} {fr : Fr} {a : Act} (F : FR β nt fr a) (d : Nat) (b : Bool) : fr.at d = .bool b ↔ a.tmps[d]? = some (.bool b) := by
  have h := F.at_ d
  rcases Nat.lt_or_ge d a.tmps.size with q | q
  · have e : a.tmps.getD d Go.undef = a.tmps[d] := by simp [Array.getD, q]
    rw [e] at h
    rw [Array.getElem?_eq_getElem q]
    generalize a.tmps[d] = y at *
    generalize fr.at d = x at *
    constructor
    · intro hb; subst hb; cases h; rfl
    · intro hb; cases hb; cases h; rfl
  · have e : a.tmps.getD d Go.undef = Go.undef := by simp [Array.getD]; omega
    rw [e] at h
    constructor
    · intro hb; rw [hb] at h; cases h
    · intro hb; rw [Array.getElem?_eq_none q] at hb; cases hb

theorem wanted_ok {β : Inj} {nt : Nat} {fr : Fr} {a : Act} (F : FR β nt fr a) (ops : Array Oper) (o : Oper) : Region.wanted o (yielded ops a.tmps) = wantedV ops fr o := by
  unfold Region.wanted wantedV yielded
  cases o.guard with
  | none => rfl
  | some x =>
    obtain ⟨j, want⟩ := x
    simp only
    cases ops[j]? with
    | none => rfl
    | some oj =>
      simp only [Option.bind_some]
      cases oj.dst with
      | none => rfl
      | some d =>
        simp only [Option.bind_some]
        have hb := at_bool F d
        cases hx : a.tmps[d]? with
        | none =>
          cases hy : fr.at d <;> first | rfl | (have := (hb _).1 hy; rw [hx] at this; cases this)
        | some y =>
          cases y with
          | bool b =>
            rw [(hb b).2 hx]; cases b <;> cases want <;> rfl
          | _ =>
            cases hy : fr.at d <;> first | rfl | (have := (hb _).1 hy; rw [hx] at this; cases this)


/-- How one stands behind a piece of code. -/
def At (P : Program) (Wr : Nat → Prop) (nt : Nat) (β : Inj) (hp : Heap) (w : World) (fr' : Fr) (hp' : Heap) (a' : Act) (w' : World) : Prop :=
  ∃ β', Up hp.n β β' ∧ Sim P Wr β' hp' w' ∧ FR β' nt fr' a' ∧ FrameW Wr w w' ∧ Lm hp hp'

theorem op_ok {E : Env} (hE : SideOK E) {call : FuncId → List Value → Heap → Option (Value × Heap)} (hC : CallOK E.P call) {Wr : Nat → Prop} {β : Inj} {hp hp' : Heap} {w : World} (S : Sim E.P Wr β hp w) {nt : Nat} {fr fr' : Fr} {a : Act} (F : FR β nt fr a)
    {o : Oper} {v : Value} (h : opV E call fr hp o.op = some (v, hp')) (hput : fr.put nt o.dst v = some fr') {next : Act → World → Prop} {Q : Exit → Act → World → Prop}
    (hn : ∀ a' w', At E.P Wr nt β hp w fr' hp' a' w' → next a' w') : o.wp E.P a w next Q := by
  unfold opV at h
  unfold Oper.wp
  split at h
  · rename_i u hr
    cases h
    obtain ⟨v', h1, h2⟩ := read_ok hE.eq S F hr
    rw [h2 w (Ext.refl w), Oper.upon_value]
    exact hn _ _ ⟨β, Up.refl _ β, S, F.put hput h1, FrameW.refl _ _, Lm.refl _⟩
  · split at h
    · rename_i r hr
      cases h
      obtain ⟨β', w', v', h1, h2, h3, h4, h5, h6⟩ := write_ok S F hr
      rcases h6 with h6 | ⟨rfl, h6⟩
      · rw [h6, Oper.upon_value]
        exact hn _ _ ⟨β', h1, h2, (F.mono h1.le).put hput h3, h4, h5⟩
      · rw [h6, Oper.upon_skip]
        exact hn _ _ ⟨β', h1, h2, (F.mono h1.le).put hput h3, h4, h5⟩
    · split at h
      · rename_i g args hg
        obtain ⟨args', h1, h2⟩ := callee_ok hE F hg
        rw [h2 w, Oper.upon_enter]
        refine (hC g args hp v hp' h Wr β w args' S h1).mono ?_
        rintro e w' ⟨v', β', rfl, k1, k2, k3, k4, k5⟩
        exact hn _ _ ⟨β', k1, k2, (F.mono k1.le).put hput k3, k4, k5⟩
      · cases h

theorem runOps_ok {E : Env} (hE : SideOK E) {call : FuncId → List Value → Heap → Option (Value × Heap)} (hC : CallOK E.P call) {Wr : Nat → Prop} {nt : Nat} {ops : Array Oper} {Q : Exit → Act → World → Prop} :
    ∀ (l : List Oper) (k : Nat) {β : Inj} {hp hp' : Heap} {w : World} {fr fr' : Fr} {a : Act}, (∀ j, l[j]? = ops[k + j]?) → Sim E.P Wr β hp w → FR β nt fr a → runOps E nt call ops l fr hp = some (fr', hp') →
      (∀ a' w', At E.P Wr nt β hp w fr' hp' a' w' → Q .normal a' w') → wpOps E.P ops Q (List.range' k l.length) a w
  | [], k, β, hp, hp', w, fr, fr', a, hl, S, F, h, hQ => by
    simp only [runOps] at h; cases h
    exact hQ a w ⟨β, Up.refl _ β, S, F, FrameW.refl _ _, Lm.refl _⟩
  | o :: l, k, β, hp, hp', w, fr, fr', a, hl, S, F, h, hQ => by
    have h0 : ops[k]? = some o := by simpa using (hl 0).symm
    have hl' : ∀ j, l[j]? = ops[k + 1 + j]? := fun j => by have := hl (j + 1); simpa [Nat.add_assoc, Nat.add_comm 1 j] using this
    simp only [List.length_cons, List.range'_succ, wpOps, h0, wanted_ok F ops o]
    simp only [runOps] at h
    cases hw : wantedV ops fr o with
    | true =>
      rw [hw] at h; simp only [cond_true] at h
      simp only [if_true]
      split at h
      · rename_i v hp1 hop
        split at h
        · rename_i fr1 hput
          refine .inl (op_ok hE hC S F hop hput ?_)
          rintro a1 w1 ⟨β1, k1, k2, k3, k4, k5⟩
          refine runOps_ok hE hC l (k + 1) hl' k2 k3 h ?_
          rintro a2 w2 ⟨β2, m1, m2, m3, m4, m5⟩
          exact hQ _ _ ⟨β2, k1.trans k5.n m1, m2, m3, k4.trans m4, m5.trans k5⟩
        · cases h
      · cases h
    | false =>
      rw [hw] at h; simp only [cond_false] at h
      simp only [Bool.false_eq_true, if_false]
      split at h
      · rename_i fr1 hput
        exact runOps_ok hE hC l (k + 1) hl' S (F.put hput (VR.undef β)) h hQ
      · cases h

theorem runQuiet_heap {E : Env} {call : FuncId → List Value → Heap → Option (Value × Heap)} {nt : Nat} {ops : Array Oper} : ∀ (l : List Oper) {fr fr' : Fr} {hp hp' : Heap}, runQuiet E nt call ops l fr hp = some (fr', hp') → hp' = hp
  | [], fr, fr', hp, hp', h => by simp only [runQuiet] at h; cases h; rfl
  | o :: l, fr, fr', hp, hp', h => by
    simp only [runQuiet] at h
    cases hw : wantedV ops fr o with
    | true =>
      rw [hw] at h; simp only [cond_true] at h
      split at h
      · split at h
        · exact runQuiet_heap l h
        · cases h
      · cases h
    | false =>
      rw [hw] at h; simp only [cond_false] at h
      split at h
      · exact runQuiet_heap l h
      · cases h

theorem quiet_ok {E : Env} (hE : SideOK E) {call : FuncId → List Value → Heap → Option (Value × Heap)} (hC : CallOK E.P call) {Wr : Nat → Prop} {β : Inj} {hp : Heap} {w : World} (S : Sim E.P Wr β hp w) {nt : Nat} {fr : Fr} {a : Act} (F : FR β nt fr a)
    {o : Oper} {v : Value} (h : quietV E call fr hp o.op = some v) : ∃ v', VR β v v' ∧ ∀ w', Ext w w' → o.quietAt E.P a (fun w'' => Ext w w'') w' v' := by
  unfold quietV at h
  split at h
  · rename_i u hr
    cases h
    obtain ⟨v', h1, h2⟩ := read_ok hE.eq S F hr
    exact ⟨v', h1, fun w' he => by unfold Oper.quietAt; rw [h2 w' he]; exact ⟨rfl, rfl⟩⟩
  · split at h
    · rename_i g args hg
      split at h
      · rename_i u hp1 hcall
        obtain ⟨hpl, h⟩ := bif_some h
        cases h
        obtain ⟨args', h1, h2⟩ := callee_ok hE F hg
        refine ⟨v, VR.plain 4 v hpl, fun w' he => ?_⟩
        unfold Oper.quietAt
        rw [h2 w']
        refine ⟨rfl, (hC g args _ _ _ hcall _ β w' args' (S.ext he).shut h1).mono ?_⟩
        rintro e w'' ⟨v', β', rfl, k1, k2, k3, k4, k5⟩
        refine ⟨by rw [plain_eq 4 hpl k3], he.trans ⟨k4.os, k4.tape, k4.output, k4.size, fun k hk => k4.block k (by omega)⟩⟩
      · cases h
    · cases h

theorem runQuiet_ok {E : Env} (hE : SideOK E) {call : FuncId → List Value → Heap → Option (Value × Heap)} (hC : CallOK E.P call) {Wr : Nat → Prop} {nt : Nat} {ops : Array Oper} {β : Inj} {hp hp' : Heap} {w : World} (S : Sim E.P Wr β hp w) {Q : Act → Prop} :
    ∀ (l : List Oper) {fr fr' : Fr} {a : Act}, FR β nt fr a → runQuiet E nt call ops l fr hp = some (fr', hp') → (∀ a', FR β nt fr' a' → Q a') → wpQuiet E.P ops (fun w'' => Ext w w'') Q l a
  | [], fr, fr', a, F, h, hQ => by simp only [runQuiet] at h; cases h; exact hQ a F
  | o :: l, fr, fr', a, F, h, hQ => by
    simp only [runQuiet] at h
    simp only [wpQuiet, wanted_ok F ops o]
    cases hw : wantedV ops fr o with
    | true =>
      rw [hw] at h; simp only [cond_true] at h
      simp only [if_true]
      split at h
      · rename_i v hq
        split at h
        · rename_i fr1 hput
          obtain ⟨v', h1, h2⟩ := quiet_ok hE hC S F hq
          exact ⟨v', h2, runQuiet_ok hE hC S l (F.put hput h1) h hQ⟩
        · cases h
      · cases h
    | false =>
      rw [hw] at h; simp only [cond_false] at h
      simp only [Bool.false_eq_true, if_false]
      split at h
      · rename_i fr1 hput
        exact runQuiet_ok hE hC S l (F.put hput (VR.undef β)) h hQ
      · cases h

theorem FR.eqv {β : Inj} {nt : Nat} {fr fr2 : Fr} {a : Act} (F : FR β nt fr a) (e : Eqv fr fr2) : FR β nt fr2 a :=
  ⟨F.size, F.defers, fun t => by rw [← e t]; exact F.at_ t⟩

/-! ### Numbers laid by -/
theorem Sim.hq {P : Program} {Wr : Nat → Prop} {β : Inj} {h h2 : Heap} {w : World} (S : Sim P Wr β h w) (m : Hq h h2) : Sim P Wr β h2 w := by
  have al : ∀ b, alive h2 b → alive h b := fun b ⟨o, h1, h3⟩ => ⟨o, by rw [← m.get b rfl]; exact h1, h3⟩
  refine Sim.mk' (fun b o v hb => S.base b o v (by rw [← m.base]; exact hb)) (fun b x hb => by rw [m.n]; exact S.dom b x hb) (fun b o hb => by rw [m.n]; exact S.tdom b o (by rw [← m.get b rfl]; exact hb))
    (fun b o hb hd => S.get (by rw [← m.get b rfl]; exact hb) hd) (fun b1 b2 x1 x2 a1 a2 => S.inj b1 b2 x1 x2 (al b1 a1) (al b2 a2)) (fun b x a hl => S.wr b x (al b a) (by rw [← m.lim]; exact hl)) S.fresh S.img
theorem Sim.lay {P : Program} {Wr : Nat → Prop} {β : Inj} {h : Heap} {w : World} (S : Sim P Wr β h w) : Sim P Wr β (h.alloc .dead) w := by
  have al : ∀ b, alive (h.alloc .dead) b → alive h b := by
    intro b a
    rcases alive_alloc a with ⟨_, hd⟩ | ⟨_, a⟩
    · exact (hd rfl).elim
    · exact a
  refine Sim.mk' S.base (fun b x hb => Nat.lt_succ_of_lt (S.dom b x hb)) (fun b o hb => ?_) (fun b o hb hd => ?_) (fun b1 b2 x1 x2 a1 a2 => S.inj b1 b2 x1 x2 (al b1 a1) (al b2 a2)) (fun b x a hl => S.wr b x (al b a) hl) S.fresh S.img
  · rw [get_alloc] at hb
    show b < h.n + 1
    by_cases e : h.n = b
    · omega
    · rw [if_neg e] at hb; have := S.tdom b o hb; omega
  · rw [get_alloc] at hb
    by_cases e : h.n = b
    · rw [if_pos e] at hb; cases hb; exact (hd rfl).elim
    · rw [if_neg e] at hb; exact S.get hb hd
theorem Sim.resv {P : Program} {Wr : Nat → Prop} {β : Inj} {w : World} : ∀ (k : Nat) {h : Heap}, Sim P Wr β h w → Sim P Wr β (V.resv k h) w
  | 0, _, S => S
  | k + 1, _, S => Sim.resv k S.lay
theorem resv_n : ∀ (k : Nat) (h : Heap), (resv k h).n = h.n + k ∧ (resv k h).lim = h.lim ∧ ∀ b, (resv k h).get b = if h.n ≤ b ∧ b < h.n + k then some .dead else h.get b
  | 0, h => ⟨rfl, rfl, fun b => by rw [if_neg (by omega)]; rfl⟩
  | k + 1, h => by
    obtain ⟨e1, e2, e3⟩ := resv_n k (h.alloc .dead)
    have en : (h.alloc .dead).n = h.n + 1 := rfl
    refine ⟨by show (resv k (h.alloc .dead)).n = _; rw [e1, en]; omega, e2, fun b => ?_⟩
    show (resv k (h.alloc .dead)).get b = _
    rw [e3, en, get_alloc]
    by_cases c : h.n = b
    · subst c; rw [if_neg (by omega), if_pos rfl, if_pos (by omega)]
    · rw [if_neg c]
      by_cases q : h.n + 1 ≤ b ∧ b < h.n + 1 + k
      · rw [if_pos q, if_pos (by omega)]
      · rw [if_neg q, if_neg (by omega)]
theorem slotsOf_inj : ∀ (l : List (Nat × Oper)) (n i j b : Nat), slotL (slotsOf l n) i = some b → slotL (slotsOf l n) j = some b → i = j
  | [], _, _, _, _, h, _ => by cases h
  | (k, o) :: r, n, i, j, b, hi, hj => by
    unfold slotsOf at hi hj
    cases ha : allocK o.op with
    | false => rw [ha] at hi hj; exact slotsOf_inj r n i j b hi hj
    | true =>
      rw [ha] at hi hj
      simp only [cond_true, slotL] at hi hj
      cases e1 : Nat.beq k i with
      | true =>
        rw [e1] at hi
        simp only [cond_true, Option.some.injEq] at hi
        cases e2 : Nat.beq k j with
        | true => rw [← Nat.eq_of_beq_eq_true e1, Nat.eq_of_beq_eq_true e2]
        | false => rw [e2] at hj; have := (slotsOf_ge _ _ _ _ hj).1; omega
      | false =>
        rw [e1] at hi
        cases e2 : Nat.beq k j with
        | true =>
          rw [e2] at hj
          simp only [cond_true, Option.some.injEq] at hj
          have := (slotsOf_ge _ _ _ _ hi).1; omega
        | false => rw [e2] at hj; exact slotsOf_inj r (n + 1) i j b hi hj
theorem slotsOf_tot : ∀ (l : List Oper) (k n j : Nat) (o : Oper), l[j]? = some o → allocK o.op = true → ∃ b, slotL (slotsOf (numbered k l) n) (k + j) = some b
  | [], _, _, _, _, h, _ => by simp at h
  | x :: r, k, n, 0, o, h, a => by
    simp at h; subst h
    simp only [numbered, slotsOf, a, cond_true, slotL, Nat.add_zero, Nat.beq_refl]
    exact ⟨_, rfl⟩
  | x :: r, k, n, j + 1, o, h, a => by
    have ih := fun n => slotsOf_tot r (k + 1) n j o (by simpa using h) a
    rw [show k + (j + 1) = k + 1 + j by omega]
    simp only [numbered, slotsOf]
    cases hx : allocK x.op with
    | false => exact ih n
    | true =>
      simp only [cond_true, slotL]
      cases e : Nat.beq k (k + 1 + j) with
      | true => exact ⟨_, rfl⟩
      | false => exact ih (n + 1)

/-- A block that is laid by is born. -/
theorem Sim.born {P : Program} {Wr : Nat → Prop} {β : Inj} {h : Heap} {w : World} (S : Sim P Wr β h w) {b : Nat} (hd : h.get b = some .dead) (hb : β b = none) {c : List Value} {C : Array Value} {T : TypeId} (hc : VRs β c C.toList) :
    ∃ β' w', β' = upd β b ⟨w.heap.size, 0, C.size, P.cellsOf T⟩ ∧ Sim P Wr β' (h.set b (.cells c T)) w' ∧ FrameW Wr w w' ∧ (newRow T C).run P w = .ok ⟨w.heap.size, 0, none⟩ w' := by
  have hw : ({ w with heap := w.heap.push (.cells C T) } : World).heap = w.heap.push (.cells C T) := rfl
  have e := Ext.push hw rfl rfl rfl
  have hg : ({ w with heap := w.heap.push (.cells C T) } : World).heap[w.heap.size]? = some (.cells C T (0, 0)) := by simp
  have hlt := S.tdom b _ hd
  have le : β.le (upd β b ⟨w.heap.size, 0, C.size, P.cellsOf T⟩) := fun y x hy => by
    unfold upd; rw [if_neg (fun q => by subst q; rw [hb] at hy; cases hy)]; exact hy
  have old : ∀ y x, y ≠ b → upd β b ⟨w.heap.size, 0, C.size, P.cellsOf T⟩ y = some x → β y = some x := fun y x hy e => by unfold upd at e; rwa [if_neg hy] at e
  have S1 := S.ext e
  have nal : ∀ y, alive h y → y ≠ b := fun y ⟨o, h1, h2⟩ q => by subst q; rw [hd] at h1; cases h1; exact h2 rfl
  have S2 : Sim P Wr (upd β b ⟨w.heap.size, 0, C.size, P.cellsOf T⟩) h { w with heap := w.heap.push (.cells C T) } := by
    refine Sim.mk' S1.base (fun y x hy => ?_) S1.tdom (fun y o hy ho => ?_) (fun y1 y2 x1 x2 a1 a2 h1 h2 => S1.inj y1 y2 x1 x2 a1 a2 (old _ _ (nal _ a1) h1) (old _ _ (nal _ a2) h2)) (fun y x a hl hy => S1.wr y x a hl (old _ _ (nal _ a) hy)) S1.fresh (fun y x hy => ?_)
    · by_cases q : y = b
      · subst q; exact hlt
      · exact S1.dom y x (old y x q hy)
    · obtain ⟨x, hx, hxo⟩ := S1.get hy ho
      exact ⟨x, le y x hx, hxo.mono le⟩
    · by_cases q : y = b
      · subst q; unfold upd at hy; rw [if_pos rfl] at hy; cases hy; simp
      · exact S1.img y x (old y x q hy)
  have hx : upd β b ⟨w.heap.size, 0, C.size, P.cellsOf T⟩ b = some ⟨w.heap.size, 0, C.size, P.cellsOf T⟩ := by simp [upd]
  refine ⟨_, _, rfl, S2.setO hx (fun b' x' a hne hb' => ?_) (fun _ _ => S.fresh _ (Nat.le_refl _)) ⟨C, (0, 0), rfl, rfl, hg, Unfrozen.none _, by have := hc.len; simp at this; simp; omega, fun i v hv => ?_⟩, Ext.frame S e, rfl⟩
  · have := S.img b' x' (old b' x' hne hb'); simp; omega
  · obtain ⟨v', a1, a2⟩ := hc.get i hv
    exact ⟨v', by simpa using a1, a2.mono le⟩

theorem upd_up {β : Inj} {n b : Nat} (x : Img) (hb : β b = none) (hn : n ≤ b) : Up n β (upd β b x) :=
  ⟨fun y z hy => by unfold upd; rw [if_neg (fun q => by subst q; rw [hb] at hy; cases hy)]; exact hy, fun y hy => by unfold upd; rw [if_neg (by omega)]⟩
theorem Up.less {n m : Nat} {β β' : Inj} (h : Up m β β') (hn : n ≤ m) : Up n β β' := ⟨h.le, fun b hb => h.keep b (Nat.lt_of_lt_of_le hb hn)⟩

/-- A new variable, at the number that was laid by for it. -/
theorem rsv_ok {E : Env} {Wr : Nat → Prop} {β : Inj} {hp hp' : Heap} {w : World} (S : Sim E.P Wr β hp w) {nt : Nat} {fr fr' : Fr} {a : Act} (F : FR β nt fr a)
    {o : Oper} {b : Nat} {v : Value} (h : rsvV E hp b o.op = some (v, hp')) (hb : β b = none) (hput : fr.put nt o.dst v = some fr') {next : Act → World → Prop} {Q : Exit → Act → World → Prop}
    (hn : ∀ a' w' x, Sim E.P Wr (upd β b x) hp' w' → FR (upd β b x) nt fr' a' → FrameW Wr w w' → Lm hp hp' → next a' w') : o.wp E.P a w next Q := by
  obtain ⟨dst, op, ty, pos, aft, gd⟩ := o
  simp only at h hput
  cases op <;> simp only [rsvV] at h <;> try (cases h; done)
  case alloc t =>
    split at h
    · rename_i z hz
      split at h
      · rename_i hd
        cases h
        have hzp := (r_zero (w := w) hz).2
        obtain ⟨β', w', rfl, s1, s2, s3⟩ := S.born (T := t) hd hb (cells_ok (VR.plain (β := β) 4 z hzp))
        have hle : β.le (upd β b ⟨w.heap.size, 0, z.cells.size, E.P.cellsOf t⟩) := (upd_up (n := 0) _ hb (Nat.zero_le _)).le
        have hx : upd β b ⟨w.heap.size, 0, z.cells.size, E.P.cellsOf t⟩ b = some ⟨w.heap.size, 0, z.cells.size, E.P.cellsOf t⟩ := by simp [upd]
        have run : (execOp a.eval ⟨dst, .alloc t, ty, pos, aft, gd⟩).run E.P w = .ok (.value (.pointer (some ⟨w.heap.size, 0, none⟩))) w' := by
          have : (Instr.alloc t true (.tuple #[])).run E.P w = .ok (.pointer (some ⟨w.heap.size, 0, none⟩)) w' := by
            simp only [Instr.alloc, Sem.run_bind, (r_zero hz).1, Result.andThen_ok, newVar, s3, Sem.run_pure]
          exact ex_v this
        unfold Oper.wp
        rw [run, Oper.upon_value]
        exact hn _ _ _ s1 ((F.mono hle).put hput (ptr_new hx)) s2 ⟨rfl, Nat.le_refl _⟩
      · cases h
    · cases h

theorem wpAny_of_allOrd {E : Env} (hE : SideOK E) {call : FuncId → List Value → Heap → Option (Value × Heap)} (hC : CallOK E.P call) {Wr : Nat → Prop} {nt n0 : Nat} {ops : Array Oper} {sl : List (Nat × Nat)}
    (inj : ∀ i j b, slotL sl i = some b → slotL sl j = some b → i = j) {Q : Exit → Act → World → Prop} {fr' : Fr} {hp' : Heap} :
    ∀ (n : Nat) (listed : Array Bool) {β : Inj} {hp : Heap} {w : World} {fr : Fr} {a : Act}, AllOrd E nt call ops sl n listed fr hp fr' hp' → Sim E.P Wr β hp w → FR β nt fr a → n0 ≤ hp.n →
      (∀ i b, listed.getD i true = false → slotL sl i = some b → β b = none ∧ n0 ≤ b ∧ b < hp.n) →
      (∀ a' w', (∃ β', Up n0 β β' ∧ Sim E.P Wr β' hp' w' ∧ FR β' nt fr' a' ∧ FrameW Wr w w' ∧ Lm hp hp') → Q .normal a' w') → wpAny E.P .any ops Q n listed a w
  | 0, listed, β, hp, w, fr, a, ⟨h1, h2, h3⟩, S, F, hn0, hs, hQ => ⟨h1, hQ a w ⟨β, Up.refl _ β, S.hq h3, F.eqv h2, FrameW.refl _ _, ⟨h3.lim, by rw [h3.n]; exact Nat.le_refl _⟩⟩⟩
  | n + 1, listed, β, hp, w, fr, a, ⟨h1, h2⟩, S, F, hn0, hs, hQ => by
    refine ⟨fun h0 => ?_, fun i hi => ?_⟩
    · obtain ⟨e1, h3⟩ := h1 h0
      exact hQ a w ⟨β, Up.refl _ β, S.hq h3, F.eqv e1, FrameW.refl _ _, ⟨h3.lim, by rw [h3.n]; exact Nat.le_refl _⟩⟩
    · obtain ⟨fr1, hp1, ⟨o, v, ho, hv, hput⟩, hA⟩ := h2 i hi
      have hun := (mem_ready'.1 hi).1
      have un : ∀ j, (listed.setIfInBounds i true).getD j true = false → listed.getD j true = false ∧ j ≠ i := by
        intro j hj
        by_cases e : i = j
        · subst e
          exfalso
          rcases Nat.lt_or_ge i listed.size with q | q
          · simp [q] at hj
          · simp [Array.getElem?_eq_none q] at hun
        · exact ⟨by rw [getD_set_ne true e] at hj; exact hj, fun q => e q.symm⟩
      unfold wpOp
      simp only [ho, wanted_ok F ops o]
      rcases hv with ⟨hw, hop⟩ | ⟨hw, rfl, rfl⟩
      · simp only [hw, if_true]
        refine .inl ?_
        cases ha : allocK o.op with
        | true =>
          unfold opS at hop
          rw [ha] at hop
          simp only [cond_true] at hop
          split at hop
          · rename_i b hb
            obtain ⟨b1, b2, b3⟩ := hs i b hun hb
            refine rsv_ok S F hop b1 hput ?_
            intro a1 w1 x k2 k3 k4 k5
            refine wpAny_of_allOrd hE hC inj n _ hA k2 k3 (Nat.le_trans hn0 k5.n) (fun j c hj hc => ?_) ?_
            · obtain ⟨u1, u2⟩ := un j hj
              obtain ⟨c1, c2, c3⟩ := hs j c u1 hc
              refine ⟨?_, c2, Nat.lt_of_lt_of_le c3 k5.n⟩
              unfold upd
              rw [if_neg (fun e => u2 (inj _ _ _ hc (by rw [e]; exact hb)))]; exact c1
            · rintro a2 w2 ⟨β2, m1, m2, m3, m4, m5⟩
              exact hQ _ _ ⟨β2, (upd_up x b1 b2).trans (Nat.le_refl _) m1, m2, m3, k4.trans m4, m5.trans k5⟩
          · cases hop
        | false =>
          rw [opS_opV ha] at hop
          refine op_ok hE hC S F hop hput ?_
          rintro a1 w1 ⟨β1, k1, k2, k3, k4, k5⟩
          refine wpAny_of_allOrd hE hC inj n _ hA k2 k3 (Nat.le_trans hn0 k5.n) (fun j c hj hc => ?_) ?_
          · obtain ⟨c1, c2, c3⟩ := hs j c (un j hj).1 hc
            exact ⟨by rw [k1.keep c c3]; exact c1, c2, Nat.lt_of_lt_of_le c3 k5.n⟩
          · rintro a2 w2 ⟨β2, m1, m2, m3, m4, m5⟩
            exact hQ _ _ ⟨β2, (k1.less hn0).trans (Nat.le_refl _) m1, m2, m3, k4.trans m4, m5.trans k5⟩
      · simp only [hw, Bool.false_eq_true, if_false]
        exact wpAny_of_allOrd hE hC inj n _ hA S (F.put hput (VR.undef β)) hn0 (fun j c hj hc => hs j c (un j hj).1 hc) hQ

def toExit : Ex → Exit
  | .normal => .normal
  | .exit id => .exit id
  | .ret => .ret

def Post (P : Program) (Wr : Nat → Prop) (nt : Nat) (β : Inj) (hp : Heap) (w : World) (x : Ex) (fr' : Fr) (hp' : Heap) : Exit → Act → World → Prop :=
  fun e a' w' => e = toExit x ∧ At P Wr nt β hp w fr' hp' a' w'

theorem At.trans {P : Program} {Wr : Nat → Prop} {nt : Nat} {β β1 : Inj} {hp hp1 hp2 : Heap} {w w1 w2 : World} {fr2 : Fr} {a2 : Act} (k1 : Up hp.n β β1) (k4 : FrameW Wr w w1) (k5 : Lm hp hp1) (h : At P Wr nt β1 hp1 w1 fr2 hp2 a2 w2) : At P Wr nt β hp w fr2 hp2 a2 w2 := by
  obtain ⟨β2, m1, m2, m3, m4, m5⟩ := h
  exact ⟨β2, k1.trans k5.n m1, m2, m3, k4.trans m4, m5.trans k5⟩

theorem evalC_ok {E : Env} (hE : SideOK E) {call : FuncId → List Value → Heap → Option (Value × Heap)} (hE' : Framed call ∧ True) (hC : CallOK E.P call) {Wr : Nat → Prop} {nt lf : Nat} :
    ∀ (c : Code) {β : Inj} {hp hp' : Heap} {w : World} {fr fr' : Fr} {a : Act} {x : Ex}, lexOK E.P c = true → Sim E.P Wr β hp w → FR β nt fr a → evalC E nt call lf c fr hp = some (x, fr', hp') →
      c.wp E.P (Post E.P Wr nt β hp w x fr' hp') a w := by
  intro c
  induction c with
  | skip =>
    intro β hp hp' w fr fr' a x hlx S F h
    simp only [evalC] at h; cases h
    exact wp_skip ⟨rfl, β, Up.refl _ β, S, F, FrameW.refl _ _, Lm.refl _⟩
  | label l =>
    intro β hp hp' w fr fr' a x hlx S F h
    simp only [evalC] at h; cases h
    exact wp_label ⟨rfl, β, Up.refl _ β, S, F, FrameW.refl _ _, Lm.refl _⟩
  | region id ops draw =>
    intro β hp hp' w fr fr' a x hlx S F h
    simp only [evalC] at h
    cases draw with
    | false =>
      simp only [cond_false] at h
      split at h
      · rename_i fr1 hp1 hr
        cases h
        refine wp_region ?_
        rw [List.range_eq_range', ← Array.length_toList]
        exact runOps_ok hE hC ops.toList 0 (by intro j; simp) S F hr (fun a' w' hA => ⟨rfl, hA⟩)
      · cases h
    | true =>
      simp only [cond_true] at h
      simp only [lexOK, Bool.not_true, Bool.false_or] at hlx
      cases hq : quietR E.P ops with
      | false =>
       rw [hq] at h hlx
       simp only [cond_false] at h hlx
       split at h
       · rename_i fr1 hp1 hr
         cases h
         obtain ⟨hlen, hinv⟩ := schedChk_inv hlx
         unfold runDrawn at hr
         have inj : ∀ i j b, slotL (slots ops hp.n) i = some b → slotL (slots ops hp.n) j = some b → i = j := fun i j b => slotsOf_inj _ _ i j b
         have tot : ∀ (i : Nat) (o : Oper), ops[i]? = some o → allocK o.op = true → ∃ b, slotL (slots ops hp.n) i = some b := fun i o ho ha => by
           have := slotsOf_tot ops.toList 0 hp.n i o (by simpa using ho) ha
           rwa [Nat.zero_add] at this
         obtain ⟨rn, rl, rg⟩ := resv_n (slots ops hp.n).length hp
         have sd : ∀ i b, slotL (slots ops hp.n) i = some b → hp.n ≤ b ∧ b < (resv (slots ops hp.n).length hp).n := fun i b hb => by
           have := slotsOf_ge _ _ _ _ hb
           rw [rn]; exact this
         refine wp_region_any hE.mixed (wpAny_of_allOrd hE hC inj (n0 := hp.n) _ _ (allOrd hE'.1 inj tot _ hlen hinv (fun x _ b hb => ?_) (runSched_run hr)) ((S.resv _).drawn _) F (by rw [rn]; omega) (fun i b _ hb => ?_) ?_)
         · obtain ⟨q1, q2⟩ := sd _ _ hb
           refine ⟨?_, q2⟩
           rw [rg, if_pos ⟨q1, by rw [rn] at q2; exact q2⟩]
         · obtain ⟨q1, q2⟩ := sd _ _ hb
           refine ⟨?_, q1, q2⟩
           cases e : β b with
           | none => rfl
           | some x => have := S.dom b x e; omega
         · rintro a1 w1 ⟨β1, k1, k2, k3, k4, k5⟩
           exact ⟨rfl, β1, k1, k2, k3, ⟨k4.os, k4.tape, k4.output, k4.size, k4.block⟩, ⟨by rw [k5.lim, rl], by have := k5.n; rw [rn] at this; omega⟩⟩
       · cases h
      | true =>
      rw [hq] at h hlx
      simp only [cond_true] at h hlx
      split at h
      · rename_i fr1 hp1 hr
        cases h
        have := runQuiet_heap _ hr; subst this
        refine wp_region_quiet (C := fun w'' => Ext w w'') hE.mixed hlx ⟨rfl, rfl, rfl, Nat.le_refl _, fun _ _ => rfl⟩ ?_
        exact runQuiet_ok hE hC S _ F hr (fun a' F' w' he => ⟨rfl, β, Up.refl _ β, S.ext he, F', Ext.frame S he, Lm.refl _⟩)
      · cases h
  | seq c1 c2 ih1 ih2 =>
    intro β hp hp' w fr fr' a x hlx S F h
    simp only [lexOK, Bool.and_eq_true] at hlx
    simp only [evalC] at h
    refine wp_seq ?_
    split at h
    · rename_i fr1 hp1 h1
      refine wp_mono (ih1 hlx.1 S F h1) ?_
      rintro e a1 w1 ⟨rfl, β1, k1, k2, k3, k4, k5⟩
      refine wp_mono (ih2 hlx.2 k2 k3 h) ?_
      rintro e a2 w2 ⟨rfl, hA⟩
      exact ⟨rfl, hA.trans k1 k4 k5⟩
    · rename_i hne
      refine wp_mono (ih1 hlx.1 S F h) ?_
      rintro e a1 w1 ⟨rfl, hA⟩
      cases x with
      | normal => exact (hne _ _ h).elim
      | exit id => exact ⟨rfl, hA⟩
      | ret => exact ⟨rfl, hA⟩
  | cond o c1 c2 ih1 ih2 =>
    intro β hp hp' w fr fr' a x hlx S F h
    simp only [lexOK, Bool.and_eq_true] at hlx
    simp only [evalC] at h
    split at h
    · rename_i ho
      exact wp_cond_true (bool_of (ev_ok F ho)) (ih1 hlx.1 S F h)
    · rename_i ho
      exact wp_cond_false (bool_of (ev_ok F ho)) (ih2 hlx.2 S F h)
    · cases h
  | block id c ih =>
    intro β hp hp' w fr fr' a x hlx S F h
    simp only [lexOK] at hlx
    simp only [evalC] at h
    refine wp_block ?_
    split at h
    · rename_i id' fr1 hp1 h1
      refine wp_mono (ih hlx S F h1) ?_
      rintro e a1 w1 ⟨rfl, hA⟩
      simp only [toExit, Exit.inBlock]
      split at h
      · rename_i e; subst e; cases h; rw [if_pos rfl]; exact ⟨rfl, hA⟩
      · rename_i e; cases h; rw [if_neg e]; exact ⟨rfl, hA⟩
    · rename_i hne
      refine wp_mono (ih hlx S F h) ?_
      rintro e a1 w1 ⟨rfl, hA⟩
      cases x with
      | normal => exact ⟨rfl, hA⟩
      | exit id' => exact (hne _ _ _ h).elim
      | ret => exact ⟨rfl, hA⟩
  | loop c ih =>
    intro β hp hp' w fr fr' a x hlx S F h
    simp only [lexOK] at hlx
    simp only [evalC] at h
    refine wp_loop_ghost (fun n a1 w1 => ∃ fr1 hp1 β1, Up hp.n β β1 ∧ Sim E.P Wr β1 hp1 w1 ∧ FR β1 nt fr1 a1 ∧ FrameW Wr w w1 ∧ Lm hp hp1 ∧ iter (fun fr h => evalC E nt call lf c fr h) n fr1 hp1 = some (x, fr', hp')) lf
      ⟨fr, hp, β, Up.refl _ β, S, F, FrameW.refl _ _, Lm.refl _, h⟩ ?_
    rintro n a1 w1 ⟨fr1, hp1, β1, k1, k2, k3, k4, k5, hit⟩
    cases n with
    | zero => simp [iter] at hit
    | succ n =>
      simp only [iter] at hit
      split at hit
      · rename_i fr2 hp2 h2
        refine wp_mono (ih hlx k2 k3 h2) ?_
        rintro e a2 w2 ⟨rfl, β2, m1, m2, m3, m4, m5⟩
        exact ⟨n, Nat.lt_succ_self n, fr2, hp2, β2, k1.trans k5.n m1, m2, m3, k4.trans m4, m5.trans k5, hit⟩
      · rename_i hne
        refine wp_mono (ih hlx k2 k3 hit) ?_
        rintro e a2 w2 ⟨rfl, hA⟩
        cases x with
        | normal => exact (hne _ _ hit).elim
        | exit id => exact ⟨rfl, hA.trans k1 k4 k5⟩
        | ret => exact ⟨rfl, hA.trans k1 k4 k5⟩
  | exit id =>
    intro β hp hp' w fr fr' a x hlx S F h
    simp only [evalC] at h; cases h
    exact wp_exit ⟨rfl, β, Up.refl _ β, S, F, FrameW.refl _ _, Lm.refl _⟩
  | scope c ih =>
    intro β hp hp' w fr fr' a x hlx S F h
    simp only [lexOK] at hlx
    simp only [evalC] at h
    refine wp_scope_straight (wp_mono (ih hlx S F h) ?_)
    rintro e a1 w1 ⟨rfl, hA⟩
    cases x <;> exact ⟨rfl, hA⟩
  | ret =>
    intro β hp hp' w fr fr' a x hlx S F h
    simp only [evalC] at h; cases h
    exact wp_ret ⟨rfl, β, Up.refl _ β, S, F, FrameW.refl _ _, Lm.refl _⟩
  | goto l => intro β hp hp' w fr fr' a x hlx S F h; simp [evalC] at h
  | refuse s => intro β hp hp' w fr fr' a x hlx S F h; simp [evalC] at h
  | rangeFunc f p c1 c2 ih1 ih2 => intro β hp hp' w fr fr' a x hlx S F h; simp [evalC] at h

/-! ### The frame that a call begins with, and what it hands back -/
theorem initF_at : ∀ (l : List Value) (i : Nat) (fr : Fr) (t : Nat), Fr.at (initF l i fr) t = if i ≤ t ∧ t < i + l.length then l.getD (t - i) undef else fr.at t
  | [], i, fr, t => by simp only [initF, List.length_nil]; rw [if_neg (by omega)]
  | v :: l, i, fr, t => by
    simp only [initF, List.length_cons]
    rw [initF_at l (i + 1) _ t, Fr.at_set]
    by_cases h1 : i + 1 ≤ t ∧ t < i + 1 + l.length
    · rw [if_pos h1, if_pos (by omega)]
      rw [show t - i = (t - (i + 1)) + 1 by omega]; rfl
    · rw [if_neg h1]
      by_cases h2 : i = t
      · subst h2; rw [if_pos rfl, if_pos (by omega)]; simp
      · rw [if_neg h2, if_neg (by omega)]

theorem init_ok {β : Inj} {args : List Value} {args' : Array Value} {nt : Nat} (h : VRs β args args'.toList) (hn : args.length ≤ nt) :
    FR β nt (initF args 0 .nil) { tmps := args' ++ Array.replicate (nt - args'.size) Go.undef, defers := [] } := by
  have hl : args.length = args'.size := by simpa using h.len
  refine ⟨by simp; omega, rfl, fun t => ?_⟩
  rw [initF_at]
  simp only [Array.getD_eq_getD_getElem?, Array.getElem?_append, Array.getElem?_replicate]
  by_cases ht : t < args'.size
  · rw [if_pos (by omega), if_pos ht]
    have : ∃ v, args[t]? = some v := ⟨args[t]'(by omega), by rw [List.getElem?_eq_getElem]⟩
    obtain ⟨v, hv⟩ := this
    obtain ⟨v', e1, e2⟩ := h.get t hv
    have e3 : args'[t]? = some v' := by rw [← Array.getElem?_toList]; exact e1
    rw [e3]; simpa [List.getD, hv] using e2
  · rw [if_neg (by omega), if_neg ht]
    split <;> exact VR.undef β

theorem result_ok {E : Env} {Wr : Nat → Prop} {β : Inj} {hp : Heap} {w : World} (S : Sim E.P Wr β hp w) {nt : Nat} {fr : Fr} {a : Act} (F : FR β nt fr a) : ∀ (rs : List ResultVar) (l : List Value), resultsV E fr hp rs = some l →
    ∃ l', VRs β l l' ∧ (rs.mapM fun | .tmp t => pure (a.tmps.getD t Go.undef) | .cell x t => do loadVar t (← asAddr (a.tmps.getD x Go.undef)) : Sem (List Value)).run E.P w = .ok l' w
  | [], l, h => by simp [resultsV] at h; subst h; exact ⟨[], .nil, rfl⟩
  | r :: rs, l, h => by
    simp only [resultsV] at h
    split at h
    · rename_i v hv
      split at h
      · rename_i l1 hl1
        cases h
        obtain ⟨l', h1, h2⟩ := result_ok S F rs l1 hl1
        cases r with
        | tmp t =>
          simp only [resultV] at hv; cases hv
          refine ⟨_ :: l', .cons (F.at_ t) h1, ?_⟩
          simp only [List.mapM_cons, Sem.run_bind, Sem.run_pure, Result.andThen_ok, h2]
        | cell x t =>
          simp only [resultV] at hv
          split at hv
          · rename_i p hx
            obtain ⟨y, hy, hA⟩ : ∃ y, a.tmps.getD x Go.undef = y ∧ VR β (fr.at x) y := ⟨_, rfl, F.at_ x⟩
            rw [hx] at hA
            cases hA with | @ptr _ p' hA => ?_
            obtain ⟨v', g1, g2⟩ := loadV_ok S hA hv
            refine ⟨v' :: l', .cons g1 h1, ?_⟩
            have ha : (asAddr (a.tmps.getD x Go.undef)).run E.P w = .ok p' w := by rw [hy]; rfl
            simp only [List.mapM_cons, Sem.run_bind, ha, Sem.run_pure, Result.andThen_ok, g2 w (Ext.refl w), h2]
          · cases hv
      · cases h
    · cases h

theorem pack_ok {β : Inj} {l l' : List Value} (h : VRs β l l') : VR β (packV l) (if h : l'.toArray.size = 1 then l'.toArray[0] else .tuple l'.toArray) := by
  cases h with
  | nil => exact .tuple .nil
  | cons h1 r =>
    cases r with
    | nil => exact h1
    | cons h2 r' =>
      rw [dif_neg (by simp)]
      exact .tuple (by simpa using VRs.cons h1 (VRs.cons h2 r'))

/-- THE CLEAN MACHINE IS RIGHT. -/
theorem run_ok {E : Env} (hE : SideOK E) : ∀ n, CallOK E.P (run E n)
  | 0 => by intro g args hp v hp' h; simp [run] at h
  | n + 1 => by
    intro g args hp v hp' h Wr β w args' S hargs
    simp only [run] at h
    split at h
    · rename_i p hp0
      exact hE.prim g p hp0 args hp v hp' h Wr β w args' S hargs
    · rename_i hprim
      split at h
      · cases h
      · rename_i fn hf
        split at h
        · cases h
        · rename_i c hc
          obtain ⟨hn, h⟩ := bif_some h
          have hn := Nat.le_of_ble_eq_true hn
          have hl : args.length = args'.size := by simpa using hargs.len
          have F := init_ok hargs hn
          split at h
          · cases h
          · rename_i x fr1 hp1 hne hev
            split at h
            · rename_i l hres
              cases h
              refine calls_of_wp hf hc (wp_mono (evalC_ok hE ⟨run_msk hE.framed n, trivial⟩ (run_ok hE n) c (hE.lex g fn c hf hc hprim) S F hev) ?_)
              rintro e a1 w1 ⟨rfl, β1, k1, k2, k3, k4, k5⟩
              obtain ⟨l', r1, r2⟩ := result_ok k2 k3 _ _ hres
              have fin : a1.defers = [] ∧ ∃ v, (results fn a1.tmps).run E.P w1 = .ok v w1 ∧ Out E.P Wr β hp hp' (packV l) w (.returned v) w1 := by
                refine ⟨k3.defers, _, ?_, _, β1, rfl, k1, k2, pack_ok r1, k4, k5⟩
                unfold results
                rw [Array.mapM_eq_mapM_toList]
                refine (Sem.run_bind _ _ _ _).trans ?_
                refine (congrArg (fun r => Result.andThen r _) ((Sem.run_map _ _ _ _).trans (congrArg (fun r => Result.andThen r _) r2))).trans ?_
                rfl
              cases x with
              | normal => exact fin
              | exit id => exact (hne _ rfl).elim
              | ret => exact fin
            · cases h
          · cases h

end Go.Proofs.Ytadfhabapgipbaa.V
