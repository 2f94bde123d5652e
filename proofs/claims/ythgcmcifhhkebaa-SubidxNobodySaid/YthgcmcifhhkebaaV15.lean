/- THE CLEAN MACHINE IS RIGHT: what it says of a call, the model's call does.
   Conditions: of the program: SideOK (each one closed fact by the kernel, or a contract). -/
import Derived.Test.YthgcmcifhhkebaaV14
namespace Go.Proofs.Ythgcmcifhhkebaa.V
open Go
set_option linter.unusedVariables false
set_option linter.unusedSimpArgs false

theorem at_bool {β : Inj} {nt : Nat} {fr : Fr} {a : Act} (F : FR β nt fr a) (d : Nat) (b : Bool) : fr.at d = .bool b ↔ a.tmps[d]? = some (.bool b) := by
  have h := F.at_ d
  rcases Nat.lt_or_ge d a.tmps.size with q | q
  · have e : a.tmps.getD d Go.undef = a.tmps[d] := by simp [Array.getD, q]
    rw [e] at h
    rw [Array.getElem?_eq_getElem q]
    generalize a.tmps[d] = y at *
    generalize fr.at d = x at *
    constructor
    · intro hb; subst hb; cases h; rfl
    · intro hb; cases hb; cases h; rfl
  · have e : a.tmps.getD d Go.undef = Go.undef := by simp [Array.getD]; omega
    rw [e] at h
    constructor
    · intro hb; rw [hb] at h; cases h
    · intro hb; rw [Array.getElem?_eq_none q] at hb; cases hb

theorem wanted_ok {β : Inj} {nt : Nat} {fr : Fr} {a : Act} (F : FR β nt fr a) (ops : Array Oper) (o : Oper) : Region.wanted o (yielded ops a.tmps) = wantedV ops fr o := by
  unfold Region.wanted wantedV yielded
  cases o.guard with
  | none => rfl
  | some x =>
    obtain ⟨j, want⟩ := x
    simp only
    cases ops[j]? with
    | none => rfl
    | some oj =>
      simp only [Option.bind_some]
      cases oj.dst with
      | none => rfl
      | some d =>
        simp only [Option.bind_some]
        have hb := at_bool F d
        cases hx : a.tmps[d]? with
        | none =>
          cases hy : fr.at d <;> first | rfl | (have := (hb _).1 hy; rw [hx] at this; cases this)
        | some y =>
          cases y with
          | bool b =>
            rw [(hb b).2 hx]; cases b <;> cases want <;> rfl
          | _ =>
            cases hy : fr.at d <;> first | rfl | (have := (hb _).1 hy; rw [hx] at this; cases this)


/-- How one stands behind a piece of code. -/
def At (P : Program) (Wr : Nat → Prop) (nt : Nat) (β : Inj) (hp : Heap) (w : World) (fr' : Fr) (hp' : Heap) (a' : Act) (w' : World) : Prop :=
  ∃ β', β.le β' ∧ Sim P Wr β' hp' w' ∧ FR β' nt fr' a' ∧ FrameW Wr w w' ∧ hp'.lim = hp.lim

theorem op_ok {E : Env} (hE : SideOK E) {call : FuncId → List Value → Heap → Option (Value × Heap)} (hC : CallOK E.P call) {Wr : Nat → Prop} {β : Inj} {hp hp' : Heap} {w : World} (S : Sim E.P Wr β hp w) {nt : Nat} {fr fr' : Fr} {a : Act} (F : FR β nt fr a)
    {o : Oper} {v : Value} (h : opV E call fr hp o.op = some (v, hp')) (hput : fr.put nt o.dst v = some fr') {next : Act → World → Prop} {Q : Exit → Act → World → Prop}
    (hn : ∀ a' w', At E.P Wr nt β hp w fr' hp' a' w' → next a' w') : o.wp E.P a w next Q := by
  unfold opV at h
  unfold Oper.wp
  split at h
  · rename_i u hr
    cases h
    obtain ⟨v', h1, h2⟩ := read_ok hE.eq S F hr
    rw [h2 w (Ext.refl w), Oper.upon_value]
    exact hn _ _ ⟨β, Inj.le_refl β, S, F.put hput h1, FrameW.refl _ _, rfl⟩
  · split at h
    · rename_i r hr
      cases h
      obtain ⟨β', w', v', h1, h2, h3, h4, h5, h6⟩ := write_ok S F hr
      rcases h6 with h6 | ⟨rfl, h6⟩
      · rw [h6, Oper.upon_value]
        exact hn _ _ ⟨β', h1, h2, (F.mono h1).put hput h3, h4, h5⟩
      · rw [h6, Oper.upon_skip]
        exact hn _ _ ⟨β', h1, h2, (F.mono h1).put hput h3, h4, h5⟩
    · split at h
      · rename_i g args hg
        obtain ⟨args', h1, h2⟩ := callee_ok hE F hg
        rw [h2 w, Oper.upon_enter]
        refine (hC g args hp v hp' h Wr β w args' S h1).mono ?_
        rintro e w' ⟨v', β', rfl, k1, k2, k3, k4, k5⟩
        exact hn _ _ ⟨β', k1, k2, (F.mono k1).put hput k3, k4, k5⟩
      · cases h

theorem runOps_ok {E : Env} (hE : SideOK E) {call : FuncId → List Value → Heap → Option (Value × Heap)} (hC : CallOK E.P call) {Wr : Nat → Prop} {nt : Nat} {ops : Array Oper} {Q : Exit → Act → World → Prop} :
    ∀ (l : List Oper) (k : Nat) {β : Inj} {hp hp' : Heap} {w : World} {fr fr' : Fr} {a : Act}, (∀ j, l[j]? = ops[k + j]?) → Sim E.P Wr β hp w → FR β nt fr a → runOps E nt call ops l fr hp = some (fr', hp') →
      (∀ a' w', At E.P Wr nt β hp w fr' hp' a' w' → Q .normal a' w') → wpOps E.P ops Q (List.range' k l.length) a w
  | [], k, β, hp, hp', w, fr, fr', a, hl, S, F, h, hQ => by
    simp only [runOps] at h; cases h
    exact hQ a w ⟨β, Inj.le_refl β, S, F, FrameW.refl _ _, rfl⟩
  | o :: l, k, β, hp, hp', w, fr, fr', a, hl, S, F, h, hQ => by
    have h0 : ops[k]? = some o := by simpa using (hl 0).symm
    have hl' : ∀ j, l[j]? = ops[k + 1 + j]? := fun j => by have := hl (j + 1); simpa [Nat.add_assoc, Nat.add_comm 1 j] using this
    simp only [List.length_cons, List.range'_succ, wpOps, h0, wanted_ok F ops o]
    simp only [runOps] at h
    cases hw : wantedV ops fr o with
    | true =>
      rw [hw] at h; simp only [cond_true] at h
      simp only [if_true]
      split at h
      · rename_i v hp1 hop
        split at h
        · rename_i fr1 hput
          refine .inl (op_ok hE hC S F hop hput ?_)
          rintro a1 w1 ⟨β1, k1, k2, k3, k4, k5⟩
          refine runOps_ok hE hC l (k + 1) hl' k2 k3 h ?_
          rintro a2 w2 ⟨β2, m1, m2, m3, m4, m5⟩
          exact hQ _ _ ⟨β2, Inj.le_trans k1 m1, m2, m3, k4.trans m4, m5.trans k5⟩
        · cases h
      · cases h
    | false =>
      rw [hw] at h; simp only [cond_false] at h
      simp only [Bool.false_eq_true, if_false]
      split at h
      · rename_i fr1 hput
        exact runOps_ok hE hC l (k + 1) hl' S (F.put hput (VR.undef β)) h hQ
      · cases h

theorem runQuiet_heap {E : Env} {call : FuncId → List Value → Heap → Option (Value × Heap)} {nt : Nat} {ops : Array Oper} : ∀ (l : List Oper) {fr fr' : Fr} {hp hp' : Heap}, runQuiet E nt call ops l fr hp = some (fr', hp') → hp' = hp
  | [], fr, fr', hp, hp', h => by simp only [runQuiet] at h; cases h; rfl
  | o :: l, fr, fr', hp, hp', h => by
    simp only [runQuiet] at h
    cases hw : wantedV ops fr o with
    | true =>
      rw [hw] at h; simp only [cond_true] at h
      split at h
      · split at h
        · exact runQuiet_heap l h
        · cases h
      · cases h
    | false =>
      rw [hw] at h; simp only [cond_false] at h
      split at h
      · exact runQuiet_heap l h
      · cases h

theorem quiet_ok {E : Env} (hE : SideOK E) {call : FuncId → List Value → Heap → Option (Value × Heap)} (hC : CallOK E.P call) {Wr : Nat → Prop} {β : Inj} {hp : Heap} {w : World} (S : Sim E.P Wr β hp w) {nt : Nat} {fr : Fr} {a : Act} (F : FR β nt fr a)
    {o : Oper} {v : Value} (h : quietV E call fr hp o.op = some v) : ∃ v', VR β v v' ∧ ∀ w', Ext w w' → o.quietAt E.P a (fun w'' => Ext w w'') w' v' := by
  unfold quietV at h
  split at h
  · rename_i u hr
    cases h
    obtain ⟨v', h1, h2⟩ := read_ok hE.eq S F hr
    exact ⟨v', h1, fun w' he => by unfold Oper.quietAt; rw [h2 w' he]; exact ⟨rfl, rfl⟩⟩
  · split at h
    · rename_i g args hg
      split at h
      · rename_i u hp1 hcall
        obtain ⟨hpl, h⟩ := bif_some h
        cases h
        obtain ⟨args', h1, h2⟩ := callee_ok hE F hg
        refine ⟨v, VR.plain 4 v hpl, fun w' he => ?_⟩
        unfold Oper.quietAt
        rw [h2 w']
        refine ⟨rfl, (hC g args _ _ _ hcall _ β w' args' (S.ext he).shut h1).mono ?_⟩
        rintro e w'' ⟨v', β', rfl, k1, k2, k3, k4, k5⟩
        refine ⟨by rw [plain_eq 4 hpl k3], he.trans ⟨k4.os, k4.tape, k4.output, k4.size, fun k hk => k4.block k (by omega)⟩⟩
      · cases h
    · cases h

theorem runQuiet_ok {E : Env} (hE : SideOK E) {call : FuncId → List Value → Heap → Option (Value × Heap)} (hC : CallOK E.P call) {Wr : Nat → Prop} {nt : Nat} {ops : Array Oper} {β : Inj} {hp hp' : Heap} {w : World} (S : Sim E.P Wr β hp w) {Q : Act → Prop} :
    ∀ (l : List Oper) {fr fr' : Fr} {a : Act}, FR β nt fr a → runQuiet E nt call ops l fr hp = some (fr', hp') → (∀ a', FR β nt fr' a' → Q a') → wpQuiet E.P ops (fun w'' => Ext w w'') Q l a
  | [], fr, fr', a, F, h, hQ => by simp only [runQuiet] at h; cases h; exact hQ a F
  | o :: l, fr, fr', a, F, h, hQ => by
    simp only [runQuiet] at h
    simp only [wpQuiet, wanted_ok F ops o]
    cases hw : wantedV ops fr o with
    | true =>
      rw [hw] at h; simp only [cond_true] at h
      simp only [if_true]
      split at h
      · rename_i v hq
        split at h
        · rename_i fr1 hput
          obtain ⟨v', h1, h2⟩ := quiet_ok hE hC S F hq
          exact ⟨v', h2, runQuiet_ok hE hC S l (F.put hput h1) h hQ⟩
        · cases h
      · cases h
    | false =>
      rw [hw] at h; simp only [cond_false] at h
      simp only [Bool.false_eq_true, if_false]
      split at h
      · rename_i fr1 hput
        exact runQuiet_ok hE hC S l (F.put hput (VR.undef β)) h hQ
      · cases h

theorem FR.eqv {β : Inj} {nt : Nat} {fr fr2 : Fr} {a : Act} (F : FR β nt fr a) (e : Eqv fr fr2) : FR β nt fr2 a :=
  ⟨F.size, F.defers, fun t => by rw [← e t]; exact F.at_ t⟩

theorem wpAny_of_allOrd {E : Env} (hE : SideOK E) {call : FuncId → List Value → Heap → Option (Value × Heap)} (hC : CallOK E.P call) {Wr : Nat → Prop} {nt : Nat} {ops : Array Oper} {Q : Exit → Act → World → Prop} {fr' : Fr} {hp' : Heap} :
    ∀ (n : Nat) (listed : Array Bool) {β : Inj} {hp : Heap} {w : World} {fr : Fr} {a : Act}, AllOrd E nt call ops n listed fr hp fr' hp' → Sim E.P Wr β hp w → FR β nt fr a →
      (∀ a' w', At E.P Wr nt β hp w fr' hp' a' w' → Q .normal a' w') → wpAny E.P .any ops Q n listed a w
  | 0, listed, β, hp, w, fr, a, ⟨h1, h2, h3⟩, S, F, hQ => by
    subst h3
    exact ⟨h1, hQ a w ⟨β, Inj.le_refl β, S, F.eqv h2, FrameW.refl _ _, rfl⟩⟩
  | n + 1, listed, β, hp, w, fr, a, ⟨h1, h2⟩, S, F, hQ => by
    refine ⟨fun h0 => ?_, fun i hi => ?_⟩
    · obtain ⟨e1, e2⟩ := h1 h0
      subst e2
      exact hQ a w ⟨β, Inj.le_refl β, S, F.eqv e1, FrameW.refl _ _, rfl⟩
    · obtain ⟨fr1, hp1, ⟨o, v, ho, hv, hput⟩, hA⟩ := h2 i hi
      unfold wpOp
      simp only [ho, wanted_ok F ops o]
      rcases hv with ⟨hw, hop⟩ | ⟨hw, rfl, rfl⟩
      · simp only [hw, if_true]
        refine .inl (op_ok hE hC S F hop hput ?_)
        rintro a1 w1 ⟨β1, k1, k2, k3, k4, k5⟩
        refine wpAny_of_allOrd hE hC n _ hA k2 k3 ?_
        rintro a2 w2 ⟨β2, m1, m2, m3, m4, m5⟩
        exact hQ _ _ ⟨β2, Inj.le_trans k1 m1, m2, m3, k4.trans m4, m5.trans k5⟩
      · simp only [hw, Bool.false_eq_true, if_false]
        exact wpAny_of_allOrd hE hC n _ hA S (F.put hput (VR.undef β)) hQ

def toExit : Ex → Exit
  | .normal => .normal
  | .exit id => .exit id
  | .ret => .ret

def Post (P : Program) (Wr : Nat → Prop) (nt : Nat) (β : Inj) (hp : Heap) (w : World) (x : Ex) (fr' : Fr) (hp' : Heap) : Exit → Act → World → Prop :=
  fun e a' w' => e = toExit x ∧ At P Wr nt β hp w fr' hp' a' w'

theorem At.trans {P : Program} {Wr : Nat → Prop} {nt : Nat} {β β1 : Inj} {hp hp1 hp2 : Heap} {w w1 w2 : World} {fr2 : Fr} {a2 : Act} (k1 : β.le β1) (k4 : FrameW Wr w w1) (k5 : hp1.lim = hp.lim) (h : At P Wr nt β1 hp1 w1 fr2 hp2 a2 w2) : At P Wr nt β hp w fr2 hp2 a2 w2 := by
  obtain ⟨β2, m1, m2, m3, m4, m5⟩ := h
  exact ⟨β2, Inj.le_trans k1 m1, m2, m3, k4.trans m4, m5.trans k5⟩

theorem evalC_ok {E : Env} (hE : SideOK E) {call : FuncId → List Value → Heap → Option (Value × Heap)} (hC : CallOK E.P call) {Wr : Nat → Prop} {nt lf : Nat} :
    ∀ (c : Code) {β : Inj} {hp hp' : Heap} {w : World} {fr fr' : Fr} {a : Act} {x : Ex}, lexOK E.P c = true → Sim E.P Wr β hp w → FR β nt fr a → evalC E nt call lf c fr hp = some (x, fr', hp') →
      c.wp E.P (Post E.P Wr nt β hp w x fr' hp') a w := by
  intro c
  induction c with
  | skip =>
    intro β hp hp' w fr fr' a x hlx S F h
    simp only [evalC] at h; cases h
    exact wp_skip ⟨rfl, β, Inj.le_refl β, S, F, FrameW.refl _ _, rfl⟩
  | label l =>
    intro β hp hp' w fr fr' a x hlx S F h
    simp only [evalC] at h; cases h
    exact wp_label ⟨rfl, β, Inj.le_refl β, S, F, FrameW.refl _ _, rfl⟩
  | region id ops draw =>
    intro β hp hp' w fr fr' a x hlx S F h
    simp only [evalC] at h
    cases draw with
    | false =>
      simp only [cond_false] at h
      split at h
      · rename_i fr1 hp1 hr
        cases h
        refine wp_region ?_
        rw [List.range_eq_range', ← Array.length_toList]
        exact runOps_ok hE hC ops.toList 0 (by intro j; simp) S F hr (fun a' w' hA => ⟨rfl, hA⟩)
      · cases h
    | true =>
      simp only [cond_true] at h
      simp only [lexOK, Bool.not_true, Bool.false_or] at hlx
      cases hq : quietR E.P ops with
      | false =>
       rw [hq] at h hlx
       simp only [cond_false] at h hlx
       split at h
       · rename_i fr1 hp1 hr
         cases h
         obtain ⟨hlen, hinv⟩ := schedChk_inv hlx
         refine wp_region_any hE.mixed (wpAny_of_allOrd hE hC _ _ (allOrd _ hlen hinv (runSched_run hr)) (S.drawn _) F ?_)
         rintro a1 w1 ⟨β1, k1, k2, k3, k4, k5⟩
         exact ⟨rfl, β1, k1, k2, k3, ⟨k4.os, k4.tape, k4.output, k4.size, k4.block⟩, k5⟩
       · cases h
      | true =>
      rw [hq] at h hlx
      simp only [cond_true] at h hlx
      split at h
      · rename_i fr1 hp1 hr
        cases h
        have := runQuiet_heap _ hr; subst this
        refine wp_region_quiet (C := fun w'' => Ext w w'') hE.mixed hlx ⟨rfl, rfl, rfl, Nat.le_refl _, fun _ _ => rfl⟩ ?_
        exact runQuiet_ok hE hC S _ F hr (fun a' F' w' he => ⟨rfl, β, Inj.le_refl β, S.ext he, F', Ext.frame S he, rfl⟩)
      · cases h
  | seq c1 c2 ih1 ih2 =>
    intro β hp hp' w fr fr' a x hlx S F h
    simp only [lexOK, Bool.and_eq_true] at hlx
    simp only [evalC] at h
    refine wp_seq ?_
    split at h
    · rename_i fr1 hp1 h1
      refine wp_mono (ih1 hlx.1 S F h1) ?_
      rintro e a1 w1 ⟨rfl, β1, k1, k2, k3, k4, k5⟩
      refine wp_mono (ih2 hlx.2 k2 k3 h) ?_
      rintro e a2 w2 ⟨rfl, hA⟩
      exact ⟨rfl, hA.trans k1 k4 k5⟩
    · rename_i hne
      refine wp_mono (ih1 hlx.1 S F h) ?_
      rintro e a1 w1 ⟨rfl, hA⟩
      cases x with
      | normal => exact (hne _ _ h).elim
      | exit id => exact ⟨rfl, hA⟩
      | ret => exact ⟨rfl, hA⟩
  | cond o c1 c2 ih1 ih2 =>
    intro β hp hp' w fr fr' a x hlx S F h
    simp only [lexOK, Bool.and_eq_true] at hlx
    simp only [evalC] at h
    split at h
    · rename_i ho
      exact wp_cond_true (bool_of (ev_ok F ho)) (ih1 hlx.1 S F h)
    · rename_i ho
      exact wp_cond_false (bool_of (ev_ok F ho)) (ih2 hlx.2 S F h)
    · cases h
  | block id c ih =>
    intro β hp hp' w fr fr' a x hlx S F h
    simp only [lexOK] at hlx
    simp only [evalC] at h
    refine wp_block ?_
    split at h
    · rename_i id' fr1 hp1 h1
      refine wp_mono (ih hlx S F h1) ?_
      rintro e a1 w1 ⟨rfl, hA⟩
      simp only [toExit, Exit.inBlock]
      split at h
      · rename_i e; subst e; cases h; rw [if_pos rfl]; exact ⟨rfl, hA⟩
      · rename_i e; cases h; rw [if_neg e]; exact ⟨rfl, hA⟩
    · rename_i hne
      refine wp_mono (ih hlx S F h) ?_
      rintro e a1 w1 ⟨rfl, hA⟩
      cases x with
      | normal => exact ⟨rfl, hA⟩
      | exit id' => exact (hne _ _ _ h).elim
      | ret => exact ⟨rfl, hA⟩
  | loop c ih =>
    intro β hp hp' w fr fr' a x hlx S F h
    simp only [lexOK] at hlx
    simp only [evalC] at h
    refine wp_loop_ghost (fun n a1 w1 => ∃ fr1 hp1 β1, β.le β1 ∧ Sim E.P Wr β1 hp1 w1 ∧ FR β1 nt fr1 a1 ∧ FrameW Wr w w1 ∧ hp1.lim = hp.lim ∧ iter (fun fr h => evalC E nt call lf c fr h) n fr1 hp1 = some (x, fr', hp')) lf
      ⟨fr, hp, β, Inj.le_refl β, S, F, FrameW.refl _ _, rfl, h⟩ ?_
    rintro n a1 w1 ⟨fr1, hp1, β1, k1, k2, k3, k4, k5, hit⟩
    cases n with
    | zero => simp [iter] at hit
    | succ n =>
      simp only [iter] at hit
      split at hit
      · rename_i fr2 hp2 h2
        refine wp_mono (ih hlx k2 k3 h2) ?_
        rintro e a2 w2 ⟨rfl, β2, m1, m2, m3, m4, m5⟩
        exact ⟨n, Nat.lt_succ_self n, fr2, hp2, β2, Inj.le_trans k1 m1, m2, m3, k4.trans m4, m5.trans k5, hit⟩
      · rename_i hne
        refine wp_mono (ih hlx k2 k3 hit) ?_
        rintro e a2 w2 ⟨rfl, hA⟩
        cases x with
        | normal => exact (hne _ _ hit).elim
        | exit id => exact ⟨rfl, hA.trans k1 k4 k5⟩
        | ret => exact ⟨rfl, hA.trans k1 k4 k5⟩
  | exit id =>
    intro β hp hp' w fr fr' a x hlx S F h
    simp only [evalC] at h; cases h
    exact wp_exit ⟨rfl, β, Inj.le_refl β, S, F, FrameW.refl _ _, rfl⟩
  | scope c ih =>
    intro β hp hp' w fr fr' a x hlx S F h
    simp only [lexOK] at hlx
    simp only [evalC] at h
    refine wp_scope_straight (wp_mono (ih hlx S F h) ?_)
    rintro e a1 w1 ⟨rfl, hA⟩
    cases x <;> exact ⟨rfl, hA⟩
  | ret =>
    intro β hp hp' w fr fr' a x hlx S F h
    simp only [evalC] at h; cases h
    exact wp_ret ⟨rfl, β, Inj.le_refl β, S, F, FrameW.refl _ _, rfl⟩
  | goto l => intro β hp hp' w fr fr' a x hlx S F h; simp [evalC] at h
  | refuse s => intro β hp hp' w fr fr' a x hlx S F h; simp [evalC] at h
  | rangeFunc f p c1 c2 ih1 ih2 => intro β hp hp' w fr fr' a x hlx S F h; simp [evalC] at h

/-! ### The frame that a call begins with, and what it hands back -/
theorem initF_at : ∀ (l : List Value) (i : Nat) (fr : Fr) (t : Nat), Fr.at (initF l i fr) t = if i ≤ t ∧ t < i + l.length then l.getD (t - i) undef else fr.at t
  | [], i, fr, t => by simp only [initF, List.length_nil]; rw [if_neg (by omega)]
  | v :: l, i, fr, t => by
    simp only [initF, List.length_cons]
    rw [initF_at l (i + 1) _ t, Fr.at_set]
    by_cases h1 : i + 1 ≤ t ∧ t < i + 1 + l.length
    · rw [if_pos h1, if_pos (by omega)]
      rw [show t - i = (t - (i + 1)) + 1 by omega]; rfl
    · rw [if_neg h1]
      by_cases h2 : i = t
      · subst h2; rw [if_pos rfl, if_pos (by omega)]; simp
      · rw [if_neg h2, if_neg (by omega)]

theorem init_ok {β : Inj} {args : List Value} {args' : Array Value} {nt : Nat} (h : VRs β args args'.toList) (hn : args.length ≤ nt) :
    FR β nt (initF args 0 .nil) { tmps := args' ++ Array.replicate (nt - args'.size) Go.undef, defers := [] } := by
  have hl : args.length = args'.size := by simpa using h.len
  refine ⟨by simp; omega, rfl, fun t => ?_⟩
  rw [initF_at]
  simp only [Array.getD_eq_getD_getElem?, Array.getElem?_append, Array.getElem?_replicate]
  by_cases ht : t < args'.size
  · rw [if_pos (by omega), if_pos ht]
    have : ∃ v, args[t]? = some v := ⟨args[t]'(by omega), by rw [List.getElem?_eq_getElem]⟩
    obtain ⟨v, hv⟩ := this
    obtain ⟨v', e1, e2⟩ := h.get t hv
    have e3 : args'[t]? = some v' := by rw [← Array.getElem?_toList]; exact e1
    rw [e3]; simpa [List.getD, hv] using e2
  · rw [if_neg (by omega), if_neg ht]
    split <;> exact VR.undef β

theorem result_ok {E : Env} {Wr : Nat → Prop} {β : Inj} {hp : Heap} {w : World} (S : Sim E.P Wr β hp w) {nt : Nat} {fr : Fr} {a : Act} (F : FR β nt fr a) : ∀ (rs : List ResultVar) (l : List Value), resultsV E fr hp rs = some l →
    ∃ l', VRs β l l' ∧ (rs.mapM fun | .tmp t => pure (a.tmps.getD t Go.undef) | .cell x t => do loadVar t (← asAddr (a.tmps.getD x Go.undef)) : Sem (List Value)).run E.P w = .ok l' w
  | [], l, h => by simp [resultsV] at h; subst h; exact ⟨[], .nil, rfl⟩
  | r :: rs, l, h => by
    simp only [resultsV] at h
    split at h
    · rename_i v hv
      split at h
      · rename_i l1 hl1
        cases h
        obtain ⟨l', h1, h2⟩ := result_ok S F rs l1 hl1
        cases r with
        | tmp t =>
          simp only [resultV] at hv; cases hv
          refine ⟨_ :: l', .cons (F.at_ t) h1, ?_⟩
          simp only [List.mapM_cons, Sem.run_bind, Sem.run_pure, Result.andThen_ok, h2]
        | cell x t =>
          simp only [resultV] at hv
          split at hv
          · rename_i p hx
            obtain ⟨y, hy, hA⟩ : ∃ y, a.tmps.getD x Go.undef = y ∧ VR β (fr.at x) y := ⟨_, rfl, F.at_ x⟩
            rw [hx] at hA
            cases hA with | @ptr _ p' hA => ?_
            obtain ⟨v', g1, g2⟩ := loadV_ok S hA hv
            refine ⟨v' :: l', .cons g1 h1, ?_⟩
            have ha : (asAddr (a.tmps.getD x Go.undef)).run E.P w = .ok p' w := by rw [hy]; rfl
            simp only [List.mapM_cons, Sem.run_bind, ha, Sem.run_pure, Result.andThen_ok, g2 w (Ext.refl w), h2]
          · cases hv
      · cases h
    · cases h

theorem pack_ok {β : Inj} {l l' : List Value} (h : VRs β l l') : VR β (packV l) (if h : l'.toArray.size = 1 then l'.toArray[0] else .tuple l'.toArray) := by
  cases h with
  | nil => exact .tuple .nil
  | cons h1 r =>
    cases r with
    | nil => exact h1
    | cons h2 r' =>
      rw [dif_neg (by simp)]
      exact .tuple (by simpa using VRs.cons h1 (VRs.cons h2 r'))

/-- THE CLEAN MACHINE IS RIGHT. -/
theorem run_ok {E : Env} (hE : SideOK E) : ∀ n, CallOK E.P (run E n)
  | 0 => by intro g args hp v hp' h; simp [run] at h
  | n + 1 => by
    intro g args hp v hp' h Wr β w args' S hargs
    simp only [run] at h
    split at h
    · rename_i p hp0
      exact hE.prim g p hp0 args hp v hp' h Wr β w args' S hargs
    · rename_i hprim
      split at h
      · cases h
      · rename_i fn hf
        split at h
        · cases h
        · rename_i c hc
          obtain ⟨hn, h⟩ := bif_some h
          have hn := Nat.le_of_ble_eq_true hn
          have hl : args.length = args'.size := by simpa using hargs.len
          have F := init_ok hargs hn
          split at h
          · cases h
          · rename_i x fr1 hp1 hne hev
            split at h
            · rename_i l hres
              cases h
              refine calls_of_wp hf hc (wp_mono (evalC_ok hE (run_ok hE n) c (hE.lex g fn c hf hc hprim) S F hev) ?_)
              rintro e a1 w1 ⟨rfl, β1, k1, k2, k3, k4, k5⟩
              obtain ⟨l', r1, r2⟩ := result_ok k2 k3 _ _ hres
              have fin : a1.defers = [] ∧ ∃ v, (results fn a1.tmps).run E.P w1 = .ok v w1 ∧ Out E.P Wr β hp hp' (packV l) w (.returned v) w1 := by
                refine ⟨k3.defers, _, ?_, _, β1, rfl, k1, k2, pack_ok r1, k4, k5⟩
                unfold results
                rw [Array.mapM_eq_mapM_toList]
                refine (Sem.run_bind _ _ _ _).trans ?_
                refine (congrArg (fun r => Result.andThen r _) ((Sem.run_map _ _ _ _).trans (congrArg (fun r => Result.andThen r _) r2))).trans ?_
                rfl
              cases x with
              | normal => exact fin
              | exit id => exact (hne _ rfl).elim
              | ret => exact fin
            · cases h
          · cases h

end Go.Proofs.Ythgcmcifhhkebaa.V
