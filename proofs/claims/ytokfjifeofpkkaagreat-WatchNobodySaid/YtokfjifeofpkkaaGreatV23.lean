/- THE CLEAN MACHINE IS RIGHT: what it says of a call, the model's call does. .. and what follows it, in one text.
   No condition beyond those that each part names. -/
import Derived.Test.YtokfjifeofpkkaaGreatVe
import Derived.ChangeArms
import Derived.Deep.Slices
import Derived.Laws.StructEq
import Derived.WideShapes
namespace Go.Proofs.YtokfjifeofpkkaaGreat.V
open Go
set_option linter.unusedVariables false
set_option linter.unusedSimpArgs false
theorem write_ok {E : Env} {Wr : Nat → Prop} {β : Inj} {hp hp' : Heap} {w : World} (S : Sim E.P Wr β hp w) {nt : Nat} {fr : Fr} {a : Act} (F : FR β nt fr a) {o : Oper} {v : Value} (h : writeV E fr hp o.op = some (v, hp')) :
 ∃ β' w' v', Up hp.n β β' ∧ Sim E.P Wr β' hp' w' ∧ VR β' v v' ∧ FrameW Wr w w' ∧ Lm hp hp' ∧ ((execOp a.eval o).run E.P w = .ok (.value v') w' ∨ (v' = undef ∧ (execOp a.eval o).run E.P w = .ok .skip w')) := by
 have val : ∀ {s : Sem Value}, (execOp a.eval o = do pure (.value (← s))) → WOut E.P Wr β hp w hp' v s →
  ∃ β' w' v', Up hp.n β β' ∧ Sim E.P Wr β' hp' w' ∧ VR β' v v' ∧ FrameW Wr w w' ∧ Lm hp hp' ∧ ((execOp a.eval o).run E.P w = .ok (.value v') w' ∨ (v' = undef ∧ (execOp a.eval o).run E.P w = .ok .skip w')) := by
  rintro s he ⟨β', w', v', h1, h2, h3, h4, h5, h6⟩
  exact ⟨β', w', v', h1, h2, h3, h4, h5, .inl (by rw [he]; exact ex_v h6)⟩
 obtain ⟨dst, op, type, pos, after, guard⟩ := o
 simp only at h
 cases op <;> simp only [writeV] at h <;> try (cases h; done)
 case alloc t =>
  split at h
  ·
   rename_i z hz; cases h; exact val rfl (alloc_ok S hz)
  ·
   cases h
 case box t x =>
  split at h
  ·
   rename_i u hu; cases h; exact val rfl (box_ok S (ev_ok F hu))
  ·
   cases h
 case buildSlice t len parts =>
  split at h
  ·
   rename_i elem p hu hp2
   split at h
   ·
    rename_i k z hk hz
    obtain ⟨hq, h⟩ := bif_some h
    rw [Bool.and_eq_true] at hq
    split at h
    ·
     rename_i c hc
     cases h
     have hpp := evParts_ok F hp2
     have hpp' : PRs β p (parts.map fun (x : Nat × Operand) => (x.1, a.eval x.2)).toList := by rw [Array.toList_map]; exact hpp
     have hb := buildSlice_ok S hu hk hz (Nat.le_of_ble_eq_true hq.1) (Nat.eq_of_beq_eq_true hq.2) hpp' hc
     exact val (s := Instr.buildSlice t len (parts.map fun (x : Nat × Operand) => (x.1, a.eval x.2))) rfl hb
    ·
     cases h
   ·
    cases h
  ·
   cases h
 case makeMap t r =>
  obtain ⟨β', w', h1, h2, h3, h4, h5⟩ := makeMap_ok S
  unfold mkMapV at h
  split at h
  ·
   cases h
   refine ⟨β', w', _, h1, h3, .map h2, h4, Lm.alloc _ _, .inl ?_⟩
   simp only [execOp, Option.map_none, Instr.makeMap, Sem.run_bind, Sem.run_pure, Result.andThen_ok, h5]
  ·
   split at h
   ·
    rename_i key elem hu
    cases h
    refine ⟨β', w', _, h1, h3, .map h2, h4, Lm.alloc _ _, .inl ?_⟩
    simp only [execOp, Option.map_some, Act.eval, Instr.makeMap, Sem.run_bind, r_underlying hu, asInt, asIntOf, Sem.run_pure, Result.andThen_ok, h5]
   ·
    cases h
  ·
   cases h
 case makeSlice t l c =>
  split at h
  ·
   rename_i elem l1 c1 hu hl hc
   split at h
   ·
    rename_i k b z hk hb hz
    obtain ⟨hq, h⟩ := bif_some h
    rw [Bool.and_eq_true] at hq
    cases h
    obtain ⟨x', e1, e2⟩ := ev_ok' F hl
    obtain ⟨y', e3, e4⟩ := ev_ok' F hc
    cases e2; cases e4
    refine val (s := Instr.makeSlice t (.int .i64 l1) (.int .i64 c1)) ?_ (makeSlice_ok S hu hk hb hz (Nat.eq_of_beq_eq_true hq.2) (of_decide_eq_true hq.1))
    simp only [execOp, e1, e3]
   ·
    cases h
  ·
   cases h
 case store t x y =>
  split at h
  ·
   rename_i u1 u2 h1 h2
   split at h
   ·
    rename_i h' hs
    cases h
    obtain ⟨w', g1, g2, g3, g4⟩ := storeV_ok S (ev_ok F h1) (ev_ok F h2) hs
    refine ⟨β, w', undef, Up.refl _ β, g2, VR.undef β, g3, g4, .inr ⟨rfl, ?_⟩⟩
    simp only [execOp, Sem.run_bind, g1, Result.andThen_ok, Sem.run_pure]
   ·
    cases h
  ·
   cases h
 case mapUpdate t m k x =>
  split at h
  ·
   rename_i u1 u2 u3 h1 h2 h3
   split at h
   ·
    rename_i h' hs
    cases h
    obtain ⟨w', g1, g2, g3, g4⟩ := updateV_ok S (ev_ok F h1) (ev_ok F h2) (ev_ok F h3) hs
    refine ⟨β, w', undef, Up.refl _ β, g2, VR.undef β, g3, g4, .inr ⟨rfl, ?_⟩⟩
    simp only [execOp, Sem.run_bind, g1, Result.andThen_ok, Sem.run_pure]
   ·
    cases h
  ·
   cases h
 case insert t m k x =>
  split at h
  ·
   rename_i u1 u2 u3 h1 h2 h3
   split at h
   ·
    rename_i h' hs
    cases h
    obtain ⟨w', g1, g2, g3, g4⟩ := updateV_ok S (ev_ok F h1) (ev_ok F h2) (ev_ok F h3) hs
    refine ⟨β, w', undef, Up.refl _ β, g2, VR.undef β, g3, g4, .inr ⟨rfl, ?_⟩⟩
    simp only [execOp, Sem.run_bind, g1, Result.andThen_ok, Sem.run_pure]
   ·
    cases h
  ·
   cases h
 case call c =>
  split at h
  ·
   rename_i hc
   split at h
   ·
    rename_i x y hx
    obtain ⟨x', y', e1, e2, e3⟩ := list2 (evs_ok F hx)
    refine val (s := Builtin.append_ c.argTypes type #[x', y']) ?_ (appendV_ok S e2 e3 h)
    simp only [execOp, resolve, hc, args_eq e1, pure_bind, invoke, builtin]
   ·
    cases h
  ·
   rename_i hc
   split at h
   ·
    rename_i x y hx
    obtain ⟨x', y', e1, e2, e3⟩ := list2 (evs_ok F hx)
    refine val (s := Builtin.copy_ c.argTypes type #[x', y']) ?_ (copyV_ok S e2 e3 h)
    simp only [execOp, resolve, hc, args_eq e1, pure_bind, invoke, builtin]
   ·
    cases h
  ·
   rename_i hc
   split at h
   ·
    rename_i x hx
    obtain ⟨x', e1, e2⟩ := list1 (evs_ok F hx)
    refine val (s := Builtin.clear_ c.argTypes type #[x']) ?_ (clearV_ok S e2 h)
    simp only [execOp, resolve, hc, args_eq e1, pure_bind, invoke, builtin]
   ·
    cases h
  ·
   rename_i hc
   split at h
   ·
    rename_i x y hx
    obtain ⟨x', y', e1, e2, e3⟩ := list2 (evs_ok F hx)
    refine val (s := Builtin.delete_ c.argTypes type #[x', y']) ?_ (deleteV_ok S e2 e3 h)
    simp only [execOp, resolve, hc, args_eq e1, pure_bind, invoke, builtin]
   ·
    cases h
  ·
   cases h
theorem Sim.allocI {P : Program} {Wr : Nat → Prop} {β : Inj} {h : Heap} {w : World} (S : Sim P Wr β h w) {r B' : Nat} (hr : β r = some ⟨B', 0, 0, 0⟩) {w' : World} (hw : w'.heap = w.heap.push (.mapIter (some B') 1 #[] 1)) (h1 : w'.os = w.os) (h2 : w'.tape = w.tape) (h3 : w'.output = w.output) :
 ∃ β', Up h.n β β' ∧ β' h.n = some ⟨w.heap.size, 0, 0, 0⟩ ∧ Sim P Wr β' (h.alloc (.iter r false)) w' ∧ FrameW Wr w w' := by
 have e := Ext.push hw h1 h2 h3
 have hg : w'.heap[w.heap.size]? = some (.mapIter (some B') 1 #[] 1) := by rw [hw]; simp
 have hle' := le_upd (⟨w.heap.size, 0, 0, 0⟩ : Img) S.dom
 obtain ⟨g1, g2⟩ := (S.ext e).addO (o := .iter r false) (x := ⟨w.heap.size, 0, 0, 0⟩)
  (fun b' x' _ hb => by have := S.img b' x' hb; simp; omega) (S.fresh _ (Nat.le_refl _)) (by rw [hw]; simp) ⟨rfl, B', hle' _ _ hr, hg⟩
 exact ⟨_, g2, by simp [upd], g1, Ext.frame S e⟩
theorem one_entry {β : Inj} {e : Value × Value} {ents : Array MapEntry} {c : Nat} (hm : MRs β [e] ents.toList) (hr : Rise c ents.toList) (hc : c = 1) : ∃ x, ents = #[x] ∧ x.born = 0 ∧ plainN 1 e.1 = true ∧ x.key = e.1 ∧ VR β e.2 x.val := by
 obtain ⟨l⟩ := ents
 cases l with
 | nil => exact hm.elim
 | cons x l =>
  cases l with
  | cons y l => exact hm.2.2.elim
  | nil =>
   refine ⟨x, rfl, ?_, hm.1.1, hm.1.2, hm.2.1⟩
   have := hr.2 x (by simp)
   omega
theorem mapsV_ok {E : Env} (hE : EqOK E) {Wr : Nat → Prop} {β : Inj} {hp hp' : Heap} {w : World} (S : Sim E.P Wr β hp w) {nt : Nat} {fr : Fr} {a : Act} (F : FR β nt fr a) {o : Oper} {v : Value} (h : mapsV E fr hp o.op = some (v, hp')) :
 ∃ β' w' v', Up hp.n β β' ∧ Sim E.P Wr β' hp' w' ∧ VR β' v v' ∧ FrameW Wr w w' ∧ Lm hp hp' ∧ ((execOp a.eval o).run E.P w = .ok (.value v') w' ∨ (v' = undef ∧ (execOp a.eval o).run E.P w = .ok .skip w')) := by
 obtain ⟨dst, op, type, pos, after, guard⟩ := o
 simp only at h
 cases op
 case mapUpdate t x k y =>
  unfold mapsV at h; dsimp only at h
  split at h
  ·
   rename_i key elem r xs u hu hm hk hy
   have hm' := ev_ok F hm
   have hk' := ev_ok F hk
   have hy' := ev_ok F hy
   split at h
   ·
    rename_i es c0 ks hg hq
    obtain ⟨hs, h⟩ := bif_some h
    rw [Bool.and_eq_true] at hs
    obtain ⟨hs, hl⟩ := hs
    obtain ⟨_, _, hpl, _⟩ := keyS_eq hs
    obtain ⟨B', ents, g1, g2, g3⟩ := S.liveM _ _ _ hg
    have e0 : a.eval x = .map (some B') := by
     generalize a.eval x = m' at hm'
     cases hm' with | @map _ B hB => rw [g1] at hB; cases hB; rfl
    have e1 : a.eval k = .agg xs := plain_eq 1 hpl hk'
    split at h
    ·
     rename_i hfm
     cases h
     obtain ⟨r', f1, f2⟩ := findKeyS_ok hE hq hs g3.1 hfm
     cases r' with
     | some r' => exact f2.elim
     | none =>
      obtain ⟨w', k1, k2, k3⟩ := map_write S (es' := es ++ [(.agg xs, u)]) (ents' := ents.push { key := .agg xs, val := a.eval y, born := c0 }) (clock' := c0 + 1) hg g1 (Nat.le_of_ble_eq_true hl) g2 (by
       refine ⟨?_, ?_⟩
       ·
        have := MRs.push_ hpl hy' c0 g3.1
        simpa using this
       ·
        have := g3.2.push (.agg xs) (a.eval y)
        simpa using this)
      have hrun : (Instr.mapUpdate t (a.eval x) (a.eval k) (a.eval y)).run E.P w = .ok () w' := by
       rw [e0, e1]
       simp only [Instr.mapUpdate, Sem.run_bind, r_underlying hu, Result.andThen_ok, get_run g2, checkS_ok hs, f1, k1]
      refine ⟨β, w', undef, Up.refl _ β, k2, VR.undef β, k3, ⟨rfl, Nat.le_refl _⟩, .inr ⟨rfl, ?_⟩⟩
      simp only [execOp, Sem.run_bind, hrun, Result.andThen_ok, Sem.run_pure]
    ·
     cases h
   ·
    cases h
  ·
   cases h
 case range t x =>
  unfold mapsV at h; dsimp only at h
  split at h
  ·
   rename_i key elem r hu hm
   have hm' := ev_ok F hm
   split at h
   ·
    rename_i es c0 hg
    obtain ⟨hc, h⟩ := bif_some h
    have hc := Nat.eq_of_beq_eq_true hc
    subst hc
    cases h
    obtain ⟨B', ents, g1, g2, g3⟩ := S.liveM _ _ _ hg
    have e0 : a.eval x = .map (some B') := by
     generalize a.eval x = m' at hm'
     cases hm' with | @map _ B hB => rw [g1] at hB; cases hB; rfl
    obtain ⟨β', k1, k2, k3, k4⟩ := S.allocI g1 (w' := { w with heap := w.heap.push (.mapIter (some B') 1 #[] 1) }) rfl rfl rfl rfl
    refine ⟨β', _, .pointer (some ⟨w.heap.size, 0 + 0, none⟩), k1, k3, .ptr (.new k2), k4, Lm.alloc _ _, .inl (ex_v (s := Instr.range t (a.eval x)) ?_)⟩
    rw [e0]
    have h1 := get_run (P := E.P) g2
    simp [Instr.range, r_underlying hu, h1, newObj, Sem.run]
   ·
    cases h
  ·
   cases h
 case next it b =>
  cases b with
  | true => unfold mapsV at h; cases h
  | false =>
   unfold mapsV at h; dsimp only at h
   split at h
   ·
    rename_i ad hx
    have hx' := ev_ok F hx
    obtain ⟨hn, h⟩ := bif_some h
    rw [Bool.and_eq_true] at hn
    obtain ⟨ab, ao, asp⟩ := ad
    obtain ⟨n1, n2⟩ := hn
    have n2 := Nat.eq_of_beq_eq_true n2
    simp only at n2; subst n2
    cases asp with
    | some _ => cases n1
    | none =>
     split at h
     ·
      rename_i r s hi
      obtain ⟨B, B', i1, i2, i3⟩ := S.liveI _ _ _ hi
      have e0 : a.eval it = .pointer (some ⟨B, 0, none⟩) := by
       generalize a.eval it = p' at hx'
       cases hx' with | @ptr _ a' hA => ?_
       cases hA with | @new _ _ B1 s1 N1 k1 q1 => ?_
       simp only at i1
       rw [i1] at q1; cases q1; rfl
      split at h
      ·
       rename_i e c0 hg
       obtain ⟨hc, h⟩ := bif_some h
       have hc := Nat.eq_of_beq_eq_true hc
       subst hc
       obtain ⟨B2, ents, g1, g2, g3⟩ := S.liveM _ _ _ hg
       rw [i2] at g1; cases g1
       obtain ⟨x, rfl, x2, x3, x4, x5⟩ := one_entry g3.1 g3.2 rfl
       have q1 : (getObj B').run E.P w = .ok (.map #[x] 1) w := get_run g2
       cases s with
       | true =>
        simp only [cond_true] at h
        cases h
        have q2 : (getObj B).run E.P w = .ok (.mapIter (some B') 1 #[0] 1) w := by simp [getObj, Sem.run, i3]
        refine ⟨β, w, .tuple #[.bool false], Up.refl _ β, S, .tuple (.cons (.bool _) .nil), FrameW.refl _ _, Lm.refl _, .inl (ex_v (s := Instr.next (a.eval it) false type) ?_)⟩
        rw [e0]
        simp [Instr.next, q1, q2, x2, Question.forced]
       | false =>
        replace h : (bif Nat.ble hp.lim ab then some (Value.tuple #[.bool true, e.1, e.2], hp.set ab (.iter r true)) else none) = some (v, hp') := h
        obtain ⟨hl, h⟩ := bif_some h
        cases h
        have q2 : (getObj B).run E.P w = .ok (.mapIter (some B') 1 #[] 1) w := by simp [getObj, Sem.run, i3]
        have hw := S.write (w' := { w with heap := w.heap.setIfInBounds B (.mapIter (some B') 1 #[0] 1) }) ⟨_, hi, by simp⟩ (Nat.le_of_ble_eq_true hl) i1 (o := .iter r true) (by simp) (fun k hk => by
         have hne : ¬ B = k := fun e => hk e.symm
         simp only; rw [Array.getElem?_setIfInBounds, if_neg hne]) rfl rfl rfl ⟨rfl, B', i2, by simp [lt_of_get i3]⟩
        have q3 : (setObj B (.mapIter (some B') 1 #[0] 1)).run E.P w = .ok () { w with heap := w.heap.setIfInBounds B (.mapIter (some B') 1 #[0] 1) } := by simp [setObj, Sem.run, i3]
        refine ⟨β, _, .tuple #[.bool true, x.key, x.val], Up.refl _ β, hw.1, .tuple (.cons (.bool _) (.cons (by rw [x4]; exact VR.plain 1 _ x3) (.cons x5 .nil))), hw.2, ⟨rfl, Nat.le_refl _⟩, .inl (ex_v (s := Instr.next (a.eval it) false type) ?_)⟩
        rw [e0]
        simp [Instr.next, q1, q2, q3, x2, Question.forced]
      ·
       cases h
     ·
      cases h
   ·
    cases h
 case entry it =>
  unfold mapsV at h; dsimp only at h
  split at h
  ·
   rename_i ad hx
   have hx' := ev_ok F hx
   obtain ⟨hn, h⟩ := bif_some h
   rw [Bool.and_eq_true] at hn
   obtain ⟨ab, ao, asp⟩ := ad
   obtain ⟨n1, n2⟩ := hn
   have n2 := Nat.eq_of_beq_eq_true n2
   simp only at n2; subst n2
   cases asp with
   | some _ => cases n1
   | none =>
    split at h
    ·
     rename_i r hi
     obtain ⟨B, B', i1, i2, i3⟩ := S.liveI _ _ _ hi
     have e0 : a.eval it = .pointer (some ⟨B, 0, none⟩) := by
      generalize a.eval it = p' at hx'
      cases hx' with | @ptr _ a' hA => ?_
      cases hA with | @new _ _ B1 s1 N1 k1 q1 => ?_
      simp only at i1
      rw [i1] at q1; cases q1; rfl
     split at h
     ·
      rename_i e c0 hg
      obtain ⟨hc, h⟩ := bif_some h
      have hc := Nat.eq_of_beq_eq_true hc
      subst hc
      obtain ⟨B2, ents, g1, g2, g3⟩ := S.liveM _ _ _ hg
      rw [i2] at g1; cases g1
      obtain ⟨x, rfl, x2, x3, x4, x5⟩ := one_entry g3.1 g3.2 rfl
      have q1 : (getObj B').run E.P w = .ok (.map #[x] 1) w := get_run g2
      have q2 : (getObj B).run E.P w = .ok (.mapIter (some B') 1 #[0] 1) w := by simp [getObj, Sem.run, i3]
      cases h
      refine ⟨β, w, .tuple #[x.key, x.val], Up.refl _ β, S, .tuple (.cons (by rw [x4]; exact VR.plain 1 _ x3) (.cons x5 .nil)), FrameW.refl _ _, Lm.refl _, .inl (ex_v (s := Instr.entry (a.eval it)) ?_)⟩
      rw [e0]
      simp [Instr.entry, q1, q2, x2]
     ·
      cases h
    ·
     cases h
  ·
   cases h
 all_goals (unfold mapsV at h; cases h)
def Out (P : Program) (Wr : Nat → Prop) (β : Inj) (hp hp' : Heap) (v : Value) (w : World) (e : Ending) (w' : World) : Prop :=
 ∃ v' β', e = .returned v' ∧ Up hp.n β β' ∧ Sim P Wr β' hp' w' ∧ VR β' v v' ∧ FrameW Wr w w' ∧ Lm hp hp'
def CallOK (P : Program) (call : FuncId → List Value → Heap → Option (Value × Heap)) : Prop :=
 ∀ g args hp v hp', call g args hp = some (v, hp') → ∀ Wr β w (args' : Array Value), Sim P Wr β hp w → VRs β args args'.toList → Calls P g args' w (Out P Wr β hp hp' v w)
def lexOK (P : Program) : Code → Bool
 | .region _ ops draw => !draw || (bif quietR P ops then Region.lexB .any ops else schedOK ops)
 | .seq a b => lexOK P a && lexOK P b
 | .cond _ a b => lexOK P a && lexOK P b
 | .block _ b => lexOK P b
 | .loop b => lexOK P b
 | .scope b => lexOK P b
 | _ => true
structure SideOK (E : Env) : Prop where
 eq : EqOK E
 name : ∀ (g : Nat) (fn : Func), E.P.funcs[g]? = some fn → fn.body.isSome = true → (fn.name == "runtime.NumGoroutine") = false
 mixed : E.P.follows .mixedOrders = true
 framed : FramedE E
 lex : ∀ (g : Nat) (fn : Func) (c : Code), E.P.funcs[g]? = some fn → fn.body = some c → E.prim g = none → lexOK E.P c = true
 meth : ∀ t name g, E.meth t name = some g → ∀ v w, (Go.method (E.P.types.size + Made.depth) t v name).run E.P w = .ok (g, v) w
 prim : ∀ g p, E.prim g = some p → ∀ args hp v hp', p args hp = some (v, hp') → ∀ Wr β w (args' : Array Value), Sim E.P Wr β hp w → VRs β args args'.toList → Calls E.P g args' w (Out E.P Wr β hp hp' v w)
theorem callFunc_ok {E : Env} (hE : SideOK E) {g : FuncId} (h : hasBody E.P g = true) (args : Array Value) (w : World) : (callFunc g args).run E.P w = .ok (.enter g args) w := by
 unfold hasBody at h
 split at h
 ·
  rename_i fn hf
  split at h
  ·
   rename_i c hc
   have hn := hE.name g fn hf (by rw [hc]; rfl)
   have hb : fn.body.isNone = false := by rw [hc]; rfl
   simp only [callFunc, Sem.run_bind, run_program, Result.andThen_ok, hf, hn, hb, Bool.false_eq_true, if_false, Sem.run_pure]
  ·
   cases h
 ·
  cases h
theorem callee_ok {E : Env} (hE : SideOK E) {β : Inj} {nt : Nat} {fr : Fr} {a : Act} (F : FR β nt fr a) {o : Oper} {g : FuncId} {args : List Value} (h : calleeV E fr o.op = some (g, args)) :
 ∃ args' : Array Value, VRs β args args'.toList ∧ ∀ w, (execOp a.eval o).run E.P w = .ok (.enter g args') w := by
 obtain ⟨dst, op, type, pos, after, guard⟩ := o
 simp only at h
 cases op <;> simp only [calleeV] at h <;> try (cases h; done)
 case call c =>
  split at h
  ·
   rename_i f hc
   split at h
   ·
    rename_i g0 first cap hf
    split at h
    ·
     rename_i as has
     obtain ⟨hb, h⟩ := bif_some h
     cases h
     obtain ⟨x', e1, e2⟩ := ev_ok' F hf
     cases e2 with | @func _ _ f' _ c' h1 h2 => ?_
     refine ⟨f' ++ c.args.map a.eval ++ c', ?_, fun w => ?_⟩
     ·
      have := h1.append ((evs_ok F has).append h2)
      simpa using this
     ·
      simp only [execOp, resolve, hc, e1, Deferred.ofValue, pure_bind, invoke, callFunc_ok hE hb]
    ·
     cases h
   ·
    cases h
  ·
   rename_i r name hc
   split at h
   ·
    rename_i t v hr
    split at h
    ·
     rename_i g0 hg
     split at h
     ·
      rename_i as has
      obtain ⟨hb, h⟩ := bif_some h
      cases h
      obtain ⟨x', e1, e2⟩ := ev_ok' F hr
      cases e2 with | @iface _ _ v' hv => ?_
      refine ⟨#[v'] ++ c.args.map a.eval, ?_, fun w => ?_⟩
      ·
       have := VRs.cons hv (evs_ok F has)
       simpa using this
      ·
       have hm := hE.meth t name g hg v' w
       have e3 : (#[Value.iface t v'] ++ c.args.map a.eval)[0]? = some (.iface t v') := by rw [Array.getElem?_append_left (by simp)]; rfl
       have e4 : (#[Value.iface t v'] ++ c.args.map a.eval).extract 1 (#[Value.iface t v'] ++ c.args.map a.eval).size = c.args.map a.eval := by
        apply Array.ext'; simp; exact List.take_of_length_le (by simp)
       simp only [execOp, resolve, hc, e1, pure_bind, invoke, e3, e4, callMethod, Sem.run_bind, run_program, Result.andThen_ok, hm, callFunc_ok hE hb]
     ·
      cases h
    ·
     cases h
   ·
    cases h
  ·
   cases h
end Go.Proofs.YtokfjifeofpkkaaGreat.V
namespace Go.Proofs.YtokfjifeofpkkaaGreat.V
open Go
set_option linter.unusedVariables false
set_option linter.unusedSimpArgs false
theorem at_bool {β : Inj} {nt : Nat} {fr : Fr} {a : Act} (F : FR β nt fr a) (d : Nat) (b : Bool) : fr.at d = .bool b ↔ a.tmps[d]? = some (.bool b) := by
 have h := F.at_ d
 rcases Nat.lt_or_ge d a.tmps.size with q | q
 ·
  have e : a.tmps.getD d Go.undef = a.tmps[d] := by simp [Array.getD, q]
  rw [e] at h
  rw [Array.getElem?_eq_getElem q]
  generalize a.tmps[d] = y at *
  generalize fr.at d = x at *
  constructor
  ·
   intro hb; subst hb; cases h; rfl
  ·
   intro hb; cases hb; cases h; rfl
 ·
  have e : a.tmps.getD d Go.undef = Go.undef := by simp [Array.getD]; omega
  rw [e] at h
  constructor
  ·
   intro hb; rw [hb] at h; cases h
  ·
   intro hb; rw [Array.getElem?_eq_none q] at hb; cases hb
theorem wanted_ok {β : Inj} {nt : Nat} {fr : Fr} {a : Act} (F : FR β nt fr a) (ops : Array Oper) (o : Oper) : Region.wanted o (yielded ops a.tmps) = wantedV ops fr o := by
 unfold Region.wanted wantedV yielded
 cases o.guard with
 | none => rfl
 | some x =>
  obtain ⟨j, want⟩ := x
  simp only
  cases ops[j]? with
  | none => rfl
  | some oj =>
   simp only [Option.bind_some]
   cases oj.dst with
   | none => rfl
   | some d =>
    simp only [Option.bind_some]
    have hb := at_bool F d
    cases hx : a.tmps[d]? with
    | none =>
     cases hy : fr.at d <;> first | rfl | (have := (hb _).1 hy; rw [hx] at this; cases this)
    | some y =>
     cases y with
     | bool b =>
      rw [(hb b).2 hx]; cases b <;> cases want <;> rfl
     | _ =>
      cases hy : fr.at d <;> first | rfl | (have := (hb _).1 hy; rw [hx] at this; cases this)
def At (P : Program) (Wr : Nat → Prop) (nt : Nat) (β : Inj) (hp : Heap) (w : World) (fr' : Fr) (hp' : Heap) (a' : Act) (w' : World) : Prop :=
 ∃ β', Up hp.n β β' ∧ Sim P Wr β' hp' w' ∧ FR β' nt fr' a' ∧ FrameW Wr w w' ∧ Lm hp hp'
theorem op_ok {E : Env} (hE : SideOK E) {call : FuncId → List Value → Heap → Option (Value × Heap)} (hC : CallOK E.P call) {Wr : Nat → Prop} {β : Inj} {hp hp' : Heap} {w : World} (S : Sim E.P Wr β hp w) {nt : Nat} {fr fr' : Fr} {a : Act} (F : FR β nt fr a)
 {o : Oper} {v : Value} (h : opV E call fr hp o.op = some (v, hp')) (hput : fr.put nt o.dst v = some fr') {next : Act → World → Prop} {Q : Exit → Act → World → Prop}
 (hn : ∀ a' w', At E.P Wr nt β hp w fr' hp' a' w' → next a' w') : o.wp E.P a w next Q := by
 unfold opV at h
 unfold Oper.wp
 split at h
 ·
  rename_i u hr
  cases h
  obtain ⟨v', h1, h2⟩ := read_ok hE.eq S F hr
  rw [h2 w (Ext.refl w), Oper.upon_value]
  exact hn _ _ ⟨β, Up.refl _ β, S, F.put hput h1, FrameW.refl _ _, Lm.refl _⟩
 ·
  split at h
  ·
   rename_i r hr
   cases h
   obtain ⟨β', w', v', h1, h2, h3, h4, h5, h6⟩ := write_ok S F hr
   rcases h6 with h6 | ⟨rfl, h6⟩
   ·
    rw [h6, Oper.upon_value]
    exact hn _ _ ⟨β', h1, h2, (F.mono h1.le).put hput h3, h4, h5⟩
   ·
    rw [h6, Oper.upon_skip]
    exact hn _ _ ⟨β', h1, h2, (F.mono h1.le).put hput h3, h4, h5⟩
  ·
   split at h
   ·
    rename_i g args hg
    obtain ⟨args', h1, h2⟩ := callee_ok hE F hg
    rw [h2 w, Oper.upon_enter]
    refine (hC g args hp v hp' h Wr β w args' S h1).mono ?_
    rintro e w' ⟨v', β', rfl, k1, k2, k3, k4, k5⟩
    exact hn _ _ ⟨β', k1, k2, (F.mono k1.le).put hput k3, k4, k5⟩
   ·
    cases h
theorem promo_ok {E : Env} (hE : SideOK E) {Wr : Nat → Prop} {β : Inj} {hp : Heap} {w : World} (S : Sim E.P Wr β hp w) {nt : Nat} {fr : Fr} {a : Act} (F : FR β nt fr a) {o : Oper} {g : FuncId} {args : List Value} (h : promoV E fr hp o.op = some (g, args)) :
 ∃ args' : Array Value, VRs β args args'.toList ∧ (execOp a.eval o).run E.P w = .ok (.enter g args') w := by
 obtain ⟨dst, op, type, pos, after, guard⟩ := o
 simp only at h
 cases op <;> simp only [promoV] at h <;> try (cases h; done)
 case call c =>
  split at h
  ·
   rename_i r name hc
   split at h
   ·
    rename_i t v hr
    split at h
    ·
     cases h
    ·
     rename_i hme
     split at h
     ·
      rename_i g0 st i ft hpm
      split at h
      ·
       rename_i b hb
       split at h
       ·
        rename_i u hu
        split at h
        ·
         rename_i as has
         obtain ⟨hbo, h⟩ := bif_some h
         cases h
         obtain ⟨x', e1, e2⟩ := ev_ok' F hr
         cases e2 with | @iface _ _ v' hv => ?_
         unfold fieldAddrV at hb
         split at hb
         ·
          rename_i fs a0 hf
          cases hv with | @ptr _ a' hA => ?_
          split at hb
          ·
           rename_i fd hfd
           split at hb
           ·
            rename_i n hn
            have hAR : AR β b (a'.add fd.offset) := by
             cases hA with
             | @new b0 o0 B s0 N k hb0 => simp at hb; subst hb; rw [Addr.add_none, Nat.add_assoc]; exact .new hb0
             | base => simp at hb; subst hb; rw [Addr.add_none]; exact .base
             | odd => simp at hb
            obtain ⟨u', hu1, hu2⟩ := loadV_ok S hAR hu
            refine ⟨#[u'] ++ c.args.map a.eval, ?_, ?_⟩
            ·
             have := VRs.cons hu1 (evs_ok F has)
             simpa using this
            ·
             have hm : (Go.method (E.P.types.size + Made.depth) t (.pointer (some a')) name).run E.P w = .ok (g, u') w := by
              unfold promoM at hpm
              split at hpm
              ·
               cases hpm
              ·
               rename_i inf hi
               split at hpm
               ·
                cases hpm
               ·
                rename_i m hfm
                split at hpm
                ·
                 rename_i s f hpath hfunc
                 obtain ⟨hd, hpm⟩ := bif_some hpm
                 split at hpm
                 ·
                  rename_i fs2 hus
                  split at hpm
                  ·
                   rename_i fd2 hfd2
                   split at hpm
                   ·
                    rename_i el huel
                    cases hpm
                    have e : E.P.types.size + Made.depth = (E.P.types.size + 99) + 1 := rfl
                    rw [e]
                    unfold Go.method
                    have hfs := fieldsOf_eq hf
                    rw [hus] at hfs
                    cases hfs
                    rw [hfd2] at hfd
                    cases hfd
                    simp only [Sem.run_bind, r_info hi, Result.andThen_ok, hfm, hpath, follow, Sem.run_pure, hfunc, r_underlying hus, hfd2, hd, if_true, Place.get, asAddr, fieldPlace, r_size hn, receiverAt, r_underlying huel]
                    have hu3 := r_underlying (w := w) huel
                    simp [hu2 w (Ext.refl w), hu3, Sem.run_bind, Sem.run_pure]
                   ·
                    cases hpm
                  ·
                   cases hpm
                 ·
                  cases hpm
                ·
                 cases hpm
             have e3 : (#[Value.iface t (.pointer (some a'))] ++ c.args.map a.eval)[0]? = some (.iface t (.pointer (some a'))) := by rw [Array.getElem?_append_left (by simp)]; rfl
             have e4 : (#[Value.iface t (.pointer (some a'))] ++ c.args.map a.eval).extract 1 (#[Value.iface t (.pointer (some a'))] ++ c.args.map a.eval).size = c.args.map a.eval := by
              apply Array.ext'; simp; exact List.take_of_length_le (by simp)
             simp only [execOp, resolve, hc, e1, pure_bind, invoke, e3, e4, callMethod, Sem.run_bind, run_program, Result.andThen_ok, hm, callFunc_ok hE hbo]
           ·
            cases hb
          ·
           cases hb
         ·
          cases hb
        ·
         cases h
       ·
        cases h
      ·
       cases h
     ·
      cases h
   ·
    cases h
  ·
   cases h
theorem opP_ok {E : Env} (hE : SideOK E) {call : FuncId → List Value → Heap → Option (Value × Heap)} (hC : CallOK E.P call) {Wr : Nat → Prop} {β : Inj} {hp hp' : Heap} {w : World} (S : Sim E.P Wr β hp w) {nt : Nat} {fr fr' : Fr} {a : Act} (F : FR β nt fr a)
 {o : Oper} {v : Value} (h : opP E call fr hp o.op = some (v, hp')) (hput : fr.put nt o.dst v = some fr') {next : Act → World → Prop} {Q : Exit → Act → World → Prop}
 (hn : ∀ a' w', At E.P Wr nt β hp w fr' hp' a' w' → next a' w') : o.wp E.P a w next Q := by
 unfold opP at h
 split at h
 ·
  rename_i r e
  cases h
  exact op_ok hE hC S F e hput hn
 ·
  split at h
  ·
   rename_i g args hg
   unfold Oper.wp
   obtain ⟨args', h1, h2⟩ := promo_ok hE S F hg
   rw [h2, Oper.upon_enter]
   refine (hC g args hp v hp' h Wr β w args' S h1).mono ?_
   rintro e w' ⟨v', β', rfl, k1, k2, k3, k4, k5⟩
   exact hn _ _ ⟨β', k1, k2, (F.mono k1.le).put hput k3, k4, k5⟩
  ·
   obtain ⟨β', w', v', h1, h2, h3, h4, h5, h6⟩ := mapsV_ok hE.eq S F h
   unfold Oper.wp
   rcases h6 with h6 | ⟨rfl, h6⟩
   ·
    rw [h6, Oper.upon_value]
    exact hn _ _ ⟨β', h1, h2, (F.mono h1.le).put hput h3, h4, h5⟩
   ·
    rw [h6, Oper.upon_skip]
    exact hn _ _ ⟨β', h1, h2, (F.mono h1.le).put hput h3, h4, h5⟩
theorem runOps_ok {E : Env} (hE : SideOK E) {call : FuncId → List Value → Heap → Option (Value × Heap)} (hC : CallOK E.P call) {Wr : Nat → Prop} {nt : Nat} {ops : Array Oper} {Q : Exit → Act → World → Prop} :
 ∀ (l : List Oper) (k : Nat) {β : Inj} {hp hp' : Heap} {w : World} {fr fr' : Fr} {a : Act}, (∀ j, l[j]? = ops[k + j]?) → Sim E.P Wr β hp w → FR β nt fr a → runOps E nt call ops l fr hp = some (fr', hp') →
  (∀ a' w', At E.P Wr nt β hp w fr' hp' a' w' → Q .normal a' w') → wpOps E.P ops Q (List.range' k l.length) a w
 | [], k, β, hp, hp', w, fr, fr', a, hl, S, F, h, hQ => by
  simp only [runOps] at h; cases h
  exact hQ a w ⟨β, Up.refl _ β, S, F, FrameW.refl _ _, Lm.refl _⟩
 | o :: l, k, β, hp, hp', w, fr, fr', a, hl, S, F, h, hQ => by
  have h0 : ops[k]? = some o := by simpa using (hl 0).symm
  have hl' : ∀ j, l[j]? = ops[k + 1 + j]? := fun j => by have := hl (j + 1); simpa [Nat.add_assoc, Nat.add_comm 1 j] using this
  simp only [List.length_cons, List.range'_succ, wpOps, h0, wanted_ok F ops o]
  simp only [runOps] at h
  cases hw : wantedV ops fr o with
  | true =>
   rw [hw] at h; simp only [cond_true] at h
   simp only [if_true]
   split at h
   ·
    rename_i v hp1 hop
    split at h
    ·
     rename_i fr1 hput
     refine .inl (opP_ok hE hC S F hop hput ?_)
     rintro a1 w1 ⟨β1, k1, k2, k3, k4, k5⟩
     refine runOps_ok hE hC l (k + 1) hl' k2 k3 h ?_
     rintro a2 w2 ⟨β2, m1, m2, m3, m4, m5⟩
     exact hQ _ _ ⟨β2, k1.trans k5.n m1, m2, m3, k4.trans m4, m5.trans k5⟩
    ·
     cases h
   ·
    cases h
  | false =>
   rw [hw] at h; simp only [cond_false] at h
   simp only [Bool.false_eq_true, if_false]
   split at h
   ·
    rename_i fr1 hput
    exact runOps_ok hE hC l (k + 1) hl' S (F.put hput (VR.undef β)) h hQ
   ·
    cases h
theorem runQuiet_heap {E : Env} {call : FuncId → List Value → Heap → Option (Value × Heap)} {nt : Nat} {ops : Array Oper} : ∀ (l : List Oper) {fr fr' : Fr} {hp hp' : Heap}, runQuiet E nt call ops l fr hp = some (fr', hp') → hp' = hp
 | [], fr, fr', hp, hp', h => by simp only [runQuiet] at h; cases h; rfl
 | o :: l, fr, fr', hp, hp', h => by
  simp only [runQuiet] at h
  cases hw : wantedV ops fr o with
  | true =>
   rw [hw] at h; simp only [cond_true] at h
   split at h
   ·
    split at h
    ·
     exact runQuiet_heap l h
    ·
     cases h
   ·
    cases h
  | false =>
   rw [hw] at h; simp only [cond_false] at h
   split at h
   ·
    exact runQuiet_heap l h
   ·
    cases h
theorem quiet_ok {E : Env} (hE : SideOK E) {call : FuncId → List Value → Heap → Option (Value × Heap)} (hC : CallOK E.P call) {Wr : Nat → Prop} {β : Inj} {hp : Heap} {w : World} (S : Sim E.P Wr β hp w) {nt : Nat} {fr : Fr} {a : Act} (F : FR β nt fr a)
 {o : Oper} {v : Value} (h : quietV E call fr hp o.op = some v) : ∃ v', VR β v v' ∧ ∀ w', Ext w w' → o.quietAt E.P a (fun w'' => Ext w w'') w' v' := by
 unfold quietV at h
 split at h
 ·
  rename_i u hr
  cases h
  obtain ⟨v', h1, h2⟩ := read_ok hE.eq S F hr
  exact ⟨v', h1, fun w' he => by unfold Oper.quietAt; rw [h2 w' he]; exact ⟨rfl, rfl⟩⟩
 ·
  split at h
  ·
   rename_i g args hg
   split at h
   ·
    rename_i u hp1 hcall
    obtain ⟨hpl, h⟩ := bif_some h
    cases h
    obtain ⟨args', h1, h2⟩ := callee_ok hE F hg
    refine ⟨v, VR.plain 4 v hpl, fun w' he => ?_⟩
    unfold Oper.quietAt
    rw [h2 w']
    refine ⟨rfl, (hC g args _ _ _ hcall _ β w' args' (S.ext he).shut h1).mono ?_⟩
    rintro e w'' ⟨v', β', rfl, k1, k2, k3, k4, k5⟩
    refine ⟨by rw [plain_eq 4 hpl k3], he.trans ⟨k4.os, k4.tape, k4.output, k4.size, fun k hk => k4.block k (by omega)⟩⟩
   ·
    cases h
  ·
   cases h
theorem runQuiet_ok {E : Env} (hE : SideOK E) {call : FuncId → List Value → Heap → Option (Value × Heap)} (hC : CallOK E.P call) {Wr : Nat → Prop} {nt : Nat} {ops : Array Oper} {β : Inj} {hp hp' : Heap} {w : World} (S : Sim E.P Wr β hp w) {Q : Act → Prop} :
 ∀ (l : List Oper) {fr fr' : Fr} {a : Act}, FR β nt fr a → runQuiet E nt call ops l fr hp = some (fr', hp') → (∀ a', FR β nt fr' a' → Q a') → wpQuiet E.P ops (fun w'' => Ext w w'') Q l a
 | [], fr, fr', a, F, h, hQ => by simp only [runQuiet] at h; cases h; exact hQ a F
 | o :: l, fr, fr', a, F, h, hQ => by
  simp only [runQuiet] at h
  simp only [wpQuiet, wanted_ok F ops o]
  cases hw : wantedV ops fr o with
  | true =>
   rw [hw] at h; simp only [cond_true] at h
   simp only [if_true]
   split at h
   ·
    rename_i v hq
    split at h
    ·
     rename_i fr1 hput
     obtain ⟨v', h1, h2⟩ := quiet_ok hE hC S F hq
     exact ⟨v', h2, runQuiet_ok hE hC S l (F.put hput h1) h hQ⟩
    ·
     cases h
   ·
    cases h
  | false =>
   rw [hw] at h; simp only [cond_false] at h
   simp only [Bool.false_eq_true, if_false]
   split at h
   ·
    rename_i fr1 hput
    exact runQuiet_ok hE hC S l (F.put hput (VR.undef β)) h hQ
   ·
    cases h
theorem FR.eqv {β : Inj} {nt : Nat} {fr fr2 : Fr} {a : Act} (F : FR β nt fr a) (e : Eqv fr fr2) : FR β nt fr2 a :=
 ⟨F.size, F.defers, fun t => by rw [← e t]; exact F.at_ t⟩
theorem Sim.hq {P : Program} {Wr : Nat → Prop} {β : Inj} {h h2 : Heap} {w : World} (S : Sim P Wr β h w) (m : Hq h h2) : Sim P Wr β h2 w := by
 have al : ∀ b, alive h2 b → alive h b := fun b ⟨o, h1, h3⟩ => ⟨o, by rw [← m.get b rfl]; exact h1, h3⟩
 refine Sim.mk' (fun b o v hb => S.base b o v (by rw [← m.base]; exact hb)) (fun b x hb => by rw [m.n]; exact S.dom b x hb) (fun b o hb => by rw [m.n]; exact S.tdom b o (by rw [← m.get b rfl]; exact hb))
  (fun b o hb hd => S.get (by rw [← m.get b rfl]; exact hb) hd) (fun b1 b2 x1 x2 a1 a2 => S.inj b1 b2 x1 x2 (al b1 a1) (al b2 a2)) (fun b x a hl => S.wr b x (al b a) (by rw [← m.lim]; exact hl)) S.fresh S.img
theorem Sim.lay {P : Program} {Wr : Nat → Prop} {β : Inj} {h : Heap} {w : World} (S : Sim P Wr β h w) : Sim P Wr β (h.alloc .dead) w := by
 have al : ∀ b, alive (h.alloc .dead) b → alive h b := by
  intro b a
  rcases alive_alloc a with ⟨_, hd⟩ | ⟨_, a⟩
  ·
   exact (hd rfl).elim
  ·
   exact a
 refine Sim.mk' S.base (fun b x hb => Nat.lt_succ_of_lt (S.dom b x hb)) (fun b o hb => ?_) (fun b o hb hd => ?_) (fun b1 b2 x1 x2 a1 a2 => S.inj b1 b2 x1 x2 (al b1 a1) (al b2 a2)) (fun b x a hl => S.wr b x (al b a) hl) S.fresh S.img
 ·
  rw [get_alloc] at hb
  show b < h.n + 1
  by_cases e : h.n = b
  ·
   omega
  ·
   rw [if_neg e] at hb; have := S.tdom b o hb; omega
 ·
  rw [get_alloc] at hb
  by_cases e : h.n = b
  ·
   rw [if_pos e] at hb; cases hb; exact (hd rfl).elim
  ·
   rw [if_neg e] at hb; exact S.get hb hd
theorem Sim.resv {P : Program} {Wr : Nat → Prop} {β : Inj} {w : World} : ∀ (k : Nat) {h : Heap}, Sim P Wr β h w → Sim P Wr β (V.resv k h) w
 | 0, _, S => S
 | k + 1, _, S => Sim.resv k S.lay
theorem resv_n : ∀ (k : Nat) (h : Heap), (resv k h).n = h.n + k ∧ (resv k h).lim = h.lim ∧ ∀ b, (resv k h).get b = if h.n ≤ b ∧ b < h.n + k then some .dead else h.get b
 | 0, h => ⟨rfl, rfl, fun b => by rw [if_neg (by omega)]; rfl⟩
 | k + 1, h => by
  obtain ⟨e1, e2, e3⟩ := resv_n k (h.alloc .dead)
  have en : (h.alloc .dead).n = h.n + 1 := rfl
  refine ⟨by show (resv k (h.alloc .dead)).n = _; rw [e1, en]; omega, e2, fun b => ?_⟩
  show (resv k (h.alloc .dead)).get b = _
  rw [e3, en, get_alloc]
  by_cases c : h.n = b
  ·
   subst c; rw [if_neg (by omega), if_pos rfl, if_pos (by omega)]
  ·
   rw [if_neg c]
   by_cases q : h.n + 1 ≤ b ∧ b < h.n + 1 + k
   ·
    rw [if_pos q, if_pos (by omega)]
   ·
    rw [if_neg q, if_neg (by omega)]
theorem slotsOf_inj : ∀ (l : List (Nat × Oper)) (n i j b : Nat), slotL (slotsOf l n) i = some b → slotL (slotsOf l n) j = some b → i = j
 | [], _, _, _, _, h, _ => by cases h
 | (k, o) :: r, n, i, j, b, hi, hj => by
  unfold slotsOf at hi hj
  cases ha : allocK o.op with
  | false => rw [ha] at hi hj; exact slotsOf_inj r n i j b hi hj
  | true =>
   rw [ha] at hi hj
   simp only [cond_true, slotL] at hi hj
   cases e1 : Nat.beq k i with
   | true =>
    rw [e1] at hi
    simp only [cond_true, Option.some.injEq] at hi
    cases e2 : Nat.beq k j with
    | true => rw [← Nat.eq_of_beq_eq_true e1, Nat.eq_of_beq_eq_true e2]
    | false => rw [e2] at hj; have := (slotsOf_ge _ _ _ _ hj).1; omega
   | false =>
    rw [e1] at hi
    cases e2 : Nat.beq k j with
    | true =>
     rw [e2] at hj
     simp only [cond_true, Option.some.injEq] at hj
     have := (slotsOf_ge _ _ _ _ hi).1; omega
    | false => rw [e2] at hj; exact slotsOf_inj r (n + 1) i j b hi hj
theorem slotsOf_tot : ∀ (l : List Oper) (k n j : Nat) (o : Oper), l[j]? = some o → allocK o.op = true → ∃ b, slotL (slotsOf (numbered k l) n) (k + j) = some b
 | [], _, _, _, _, h, _ => by simp at h
 | x :: r, k, n, 0, o, h, a => by
  simp at h; subst h
  simp only [numbered, slotsOf, a, cond_true, slotL, Nat.add_zero, Nat.beq_refl]
  exact ⟨_, rfl⟩
 | x :: r, k, n, j + 1, o, h, a => by
  have ih := fun n => slotsOf_tot r (k + 1) n j o (by simpa using h) a
  rw [show k + (j + 1) = k + 1 + j by omega]
  simp only [numbered, slotsOf]
  cases hx : allocK x.op with
  | false => exact ih n
  | true =>
   simp only [cond_true, slotL]
   cases e : Nat.beq k (k + 1 + j) with
   | true => exact ⟨_, rfl⟩
   | false => exact ih (n + 1)
theorem Sim.born {P : Program} {Wr : Nat → Prop} {β : Inj} {h : Heap} {w : World} (S : Sim P Wr β h w) {b : Nat} (hd : h.get b = some .dead) (hb : β b = none) {c : List Value} {C : Array Value} {T : TypeId} (hc : VRs β c C.toList) :
 ∃ β' w', β' = upd β b ⟨w.heap.size, 0, C.size, P.cellsOf T⟩ ∧ Sim P Wr β' (h.set b (.cells c T)) w' ∧ FrameW Wr w w' ∧ (newRow T C).run P w = .ok ⟨w.heap.size, 0, none⟩ w' := by
 have hw : ({ w with heap := w.heap.push (.cells C T) } : World).heap = w.heap.push (.cells C T) := rfl
 have e := Ext.push hw rfl rfl rfl
 have hg : ({ w with heap := w.heap.push (.cells C T) } : World).heap[w.heap.size]? = some (.cells C T (0, 0)) := by simp
 have hlt := S.tdom b _ hd
 have le : β.le (upd β b ⟨w.heap.size, 0, C.size, P.cellsOf T⟩) := fun y x hy => by
  unfold upd; rw [if_neg (fun q => by subst q; rw [hb] at hy; cases hy)]; exact hy
 have old : ∀ y x, y ≠ b → upd β b ⟨w.heap.size, 0, C.size, P.cellsOf T⟩ y = some x → β y = some x := fun y x hy e => by unfold upd at e; rwa [if_neg hy] at e
 have S1 := S.ext e
 have nal : ∀ y, alive h y → y ≠ b := fun y ⟨o, h1, h2⟩ q => by subst q; rw [hd] at h1; cases h1; exact h2 rfl
 have S2 : Sim P Wr (upd β b ⟨w.heap.size, 0, C.size, P.cellsOf T⟩) h { w with heap := w.heap.push (.cells C T) } := by
  refine Sim.mk' S1.base (fun y x hy => ?_) S1.tdom (fun y o hy ho => ?_) (fun y1 y2 x1 x2 a1 a2 h1 h2 => S1.inj y1 y2 x1 x2 a1 a2 (old _ _ (nal _ a1) h1) (old _ _ (nal _ a2) h2)) (fun y x a hl hy => S1.wr y x a hl (old _ _ (nal _ a) hy)) S1.fresh (fun y x hy => ?_)
  ·
   by_cases q : y = b
   ·
    subst q; exact hlt
   ·
    exact S1.dom y x (old y x q hy)
  ·
   obtain ⟨x, hx, hxo⟩ := S1.get hy ho
   exact ⟨x, le y x hx, hxo.mono le⟩
  ·
   by_cases q : y = b
   ·
    subst q; unfold upd at hy; rw [if_pos rfl] at hy; cases hy; simp
   ·
    exact S1.img y x (old y x q hy)
 have hx : upd β b ⟨w.heap.size, 0, C.size, P.cellsOf T⟩ b = some ⟨w.heap.size, 0, C.size, P.cellsOf T⟩ := by simp [upd]
 refine ⟨_, _, rfl, S2.setO hx (fun b' x' a hne hb' => ?_) (fun _ _ => S.fresh _ (Nat.le_refl _)) ⟨C, (0, 0), rfl, rfl, hg, Unfrozen.none _, by have := hc.len; simp at this; simp; omega, fun i v hv => ?_⟩, Ext.frame S e, rfl⟩
 ·
  have := S.img b' x' (old b' x' hne hb'); simp; omega
 ·
  obtain ⟨v', a1, a2⟩ := hc.get i hv
  exact ⟨v', by simpa using a1, a2.mono le⟩
theorem upd_up {β : Inj} {n b : Nat} (x : Img) (hb : β b = none) (hn : n ≤ b) : Up n β (upd β b x) :=
 ⟨fun y z hy => by unfold upd; rw [if_neg (fun q => by subst q; rw [hb] at hy; cases hy)]; exact hy, fun y hy => by unfold upd; rw [if_neg (by omega)]⟩
theorem Up.less {n m : Nat} {β β' : Inj} (h : Up m β β') (hn : n ≤ m) : Up n β β' := ⟨h.le, fun b hb => h.keep b (Nat.lt_of_lt_of_le hb hn)⟩
theorem rsv_ok {E : Env} {Wr : Nat → Prop} {β : Inj} {hp hp' : Heap} {w : World} (S : Sim E.P Wr β hp w) {nt : Nat} {fr fr' : Fr} {a : Act} (F : FR β nt fr a)
 {o : Oper} {b : Nat} {v : Value} (h : rsvV E fr hp b o.op = some (v, hp')) (hb : β b = none) (hput : fr.put nt o.dst v = some fr') {next : Act → World → Prop} {Q : Exit → Act → World → Prop}
 (hn : ∀ a' w' x, Sim E.P Wr (upd β b x) hp' w' → FR (upd β b x) nt fr' a' → FrameW Wr w w' → Lm hp hp' → next a' w') : o.wp E.P a w next Q := by
 obtain ⟨dst, op, ty, pos, aft, gd⟩ := o
 simp only at h hput
 unfold rsvV at h
 split at h
 case h_2 => cases h
 rename_i cs T f hnb
 split at h
 case h_2 => cases h
 rename_i hd
 cases h
 cases op <;> simp only [newB] at hnb <;> try (cases hnb; done)
 case box t x =>
  split at hnb
  ·
   rename_i u hu
   cases hnb
   have hx' := ev_ok F hu
   obtain ⟨β', w', rfl, s1, s2, s3⟩ := S.born (T := T) hd hb (cells_ok hx')
   have hle : β.le (upd β b ⟨w.heap.size, 0, (a.eval x).cells.size, E.P.cellsOf T⟩) := (upd_up (n := 0) _ hb (Nat.zero_le _)).le
   have hx : upd β b ⟨w.heap.size, 0, (a.eval x).cells.size, E.P.cellsOf T⟩ b = some ⟨w.heap.size, 0, (a.eval x).cells.size, E.P.cellsOf T⟩ := by simp [upd]
   have run : (execOp a.eval ⟨dst, .box T x, ty, pos, aft, gd⟩).run E.P w = .ok (.value (.pointer (some ⟨w.heap.size, 0, none⟩))) w' := by
    have : (Instr.box T (a.eval x)).run E.P w = .ok (.pointer (some ⟨w.heap.size, 0, none⟩)) w' := by
     simp only [Instr.box, Sem.run_bind, newVar, s3, Result.andThen_ok, Sem.run_pure]
    exact ex_v this
   unfold Oper.wp
   rw [run, Oper.upon_value]
   exact hn _ _ _ s1 ((F.mono hle).put hput (ptr_new hx)) s2 ⟨rfl, Nat.le_refl _⟩
  ·
   cases hnb
 case buildSlice t len parts =>
  split at hnb
  ·
   rename_i elem p hu hp2
   split at hnb
   ·
    rename_i k z hk hz
    obtain ⟨hq, hnb⟩ := bif_some hnb
    rw [Bool.and_eq_true] at hq
    split at hnb
    ·
     rename_i c hc
     cases hnb
     have hpp := evParts_ok F hp2
     have hpp' : PRs β p (parts.map fun (x : Nat × Operand) => (x.1, a.eval x.2)).toList := by rw [Array.toList_map]; exact hpp
     have hlen := Nat.le_of_ble_eq_true hq.1
     have hzk := Nat.eq_of_beq_eq_true hq.2
     have hzp := (r_zero (w := w) hz).2
     have hzc := cells_ok (VR.plain (β := β) 4 z hzp)
     have hrep := VRs.repZ hzc len
     rw [← zrep, hzk] at hrep
     obtain ⟨c', g1, g2⟩ := fill_ok _ _ _ _ _ _ hpp' (by rw [← zrep, hzk]; exact hrep) hc
     obtain ⟨β', w', rfl, s1, s2, h5⟩ := S.born (T := T) hd hb g2
     have hle : β.le (upd β b ⟨w.heap.size, 0, c'.size, E.P.cellsOf T⟩) := (upd_up (n := 0) _ hb (Nat.zero_le _)).le
     have hx : upd β b ⟨w.heap.size, 0, c'.size, E.P.cellsOf T⟩ b = some ⟨w.heap.size, 0, c'.size, E.P.cellsOf T⟩ := by simp [upd]
     have hlen' : ¬ len * k > 2 ^ 24 := by omega
     have run : (execOp a.eval ⟨dst, .buildSlice t len parts, ty, pos, aft, gd⟩).run E.P w = .ok (.value (.slice (some ⟨w.heap.size, 0, none⟩) len len)) w' := by
      have : (Instr.buildSlice t len (parts.map fun (x : Nat × Operand) => (x.1, a.eval x.2))).run E.P w = .ok (.slice (some ⟨w.heap.size, 0, none⟩) len len) w' := by
       simp only [Instr.buildSlice, Sem.run_bind, r_underlying hu, Result.andThen_ok, r_size hk, if_neg hlen']
       by_cases q : len * k = 0
       ·
        rw [if_pos q]
        have e : (Array.range (len * k)).map (fun i => (#[] : Array Value)[i % (#[] : Array Value).size]!) = (Array.range (len * k)).map (fun i => z.cells[i % k]!) := by rw [q]; simp
        simp only [Sem.run_bind, Sem.run_pure, Result.andThen_ok]
        rw [e, g1]
        simp only [Sem.run_bind, h5, Result.andThen_ok, Sem.run_pure]
       ·
        rw [if_neg q]
        simp only [Sem.run_bind, (r_zero hz).1, Result.andThen_ok, Sem.run_pure, hzk]
        rw [g1]
        simp only [Sem.run_bind, h5, Result.andThen_ok, Sem.run_pure]
      exact ex_v this
     unfold Oper.wp
     rw [run, Oper.upon_value]
     exact hn _ _ _ s1 ((F.mono hle).put hput (slice_new hx _ _)) s2 ⟨rfl, Nat.le_refl _⟩
    ·
     cases hnb
   ·
    cases hnb
  ·
   cases hnb
 case alloc t =>
  split at hnb
  ·
   rename_i z hz
   ·
    cases hnb
    have hzp := (r_zero (w := w) hz).2
    obtain ⟨β', w', rfl, s1, s2, s3⟩ := S.born (T := T) hd hb (cells_ok (VR.plain (β := β) 4 z hzp))
    have hle : β.le (upd β b ⟨w.heap.size, 0, z.cells.size, E.P.cellsOf T⟩) := (upd_up (n := 0) _ hb (Nat.zero_le _)).le
    have hx : upd β b ⟨w.heap.size, 0, z.cells.size, E.P.cellsOf T⟩ b = some ⟨w.heap.size, 0, z.cells.size, E.P.cellsOf T⟩ := by simp [upd]
    have run : (execOp a.eval ⟨dst, .alloc T, ty, pos, aft, gd⟩).run E.P w = .ok (.value (.pointer (some ⟨w.heap.size, 0, none⟩))) w' := by
     have : (Instr.alloc T true (.tuple #[])).run E.P w = .ok (.pointer (some ⟨w.heap.size, 0, none⟩)) w' := by
      simp only [Instr.alloc, Sem.run_bind, (r_zero hz).1, Result.andThen_ok, newVar, s3, Sem.run_pure]
     exact ex_v this
    unfold Oper.wp
    rw [run, Oper.upon_value]
    exact hn _ _ _ s1 ((F.mono hle).put hput (ptr_new hx)) s2 ⟨rfl, Nat.le_refl _⟩
  ·
   cases hnb
theorem wpAny_of_allOrd {E : Env} (hE : SideOK E) {call : FuncId → List Value → Heap → Option (Value × Heap)} (hC : CallOK E.P call) {Wr : Nat → Prop} {nt n0 : Nat} {ops : Array Oper} {sl : List (Nat × Nat)}
 (inj : ∀ i j b, slotL sl i = some b → slotL sl j = some b → i = j) {Q : Exit → Act → World → Prop} {fr' : Fr} {hp' : Heap} :
 ∀ (n : Nat) (listed : Array Bool) {β : Inj} {hp : Heap} {w : World} {fr : Fr} {a : Act}, AllOrd E nt call ops sl n listed fr hp fr' hp' → Sim E.P Wr β hp w → FR β nt fr a → n0 ≤ hp.n →
  (∀ i b, listed.getD i true = false → slotL sl i = some b → β b = none ∧ n0 ≤ b ∧ b < hp.n) →
  (∀ a' w', (∃ β', Up n0 β β' ∧ Sim E.P Wr β' hp' w' ∧ FR β' nt fr' a' ∧ FrameW Wr w w' ∧ Lm hp hp') → Q .normal a' w') → wpAny E.P .any ops Q n listed a w
 | 0, listed, β, hp, w, fr, a, ⟨h1, h2, h3⟩, S, F, hn0, hs, hQ => ⟨h1, hQ a w ⟨β, Up.refl _ β, S.hq h3, F.eqv h2, FrameW.refl _ _, ⟨h3.lim, by rw [h3.n]; exact Nat.le_refl _⟩⟩⟩
 | n + 1, listed, β, hp, w, fr, a, ⟨h1, h2⟩, S, F, hn0, hs, hQ => by
  refine ⟨fun h0 => ?_, fun i hi => ?_⟩
  ·
   obtain ⟨e1, h3⟩ := h1 h0
   exact hQ a w ⟨β, Up.refl _ β, S.hq h3, F.eqv e1, FrameW.refl _ _, ⟨h3.lim, by rw [h3.n]; exact Nat.le_refl _⟩⟩
  ·
   obtain ⟨fr1, hp1, ⟨o, v, ho, hv, hput⟩, hA⟩ := h2 i hi
   have hun := (mem_ready'.1 hi).1
   have un : ∀ j, (listed.setIfInBounds i true).getD j true = false → listed.getD j true = false ∧ j ≠ i := by
    intro j hj
    by_cases e : i = j
    ·
     subst e
     exfalso
     rcases Nat.lt_or_ge i listed.size with q | q
     ·
      simp [q] at hj
     ·
      simp [Array.getElem?_eq_none q] at hun
    ·
     exact ⟨by rw [getD_set_ne true e] at hj; exact hj, fun q => e q.symm⟩
   unfold wpOp
   simp only [ho, wanted_ok F ops o]
   rcases hv with ⟨hw, hop⟩ | ⟨hw, rfl, rfl⟩
   ·
    simp only [hw, if_true]
    refine .inl ?_
    cases ha : allocK o.op with
    | true =>
     unfold opS at hop
     rw [ha] at hop
     simp only [cond_true] at hop
     split at hop
     ·
      rename_i b hb
      obtain ⟨b1, b2, b3⟩ := hs i b hun hb
      refine rsv_ok S F hop b1 hput ?_
      intro a1 w1 x k2 k3 k4 k5
      refine wpAny_of_allOrd hE hC inj n _ hA k2 k3 (Nat.le_trans hn0 k5.n) (fun j c hj hc => ?_) ?_
      ·
       obtain ⟨u1, u2⟩ := un j hj
       obtain ⟨c1, c2, c3⟩ := hs j c u1 hc
       refine ⟨?_, c2, Nat.lt_of_lt_of_le c3 k5.n⟩
       unfold upd
       rw [if_neg (fun e => u2 (inj _ _ _ hc (by rw [e]; exact hb)))]; exact c1
      ·
       rintro a2 w2 ⟨β2, m1, m2, m3, m4, m5⟩
       exact hQ _ _ ⟨β2, (upd_up x b1 b2).trans (Nat.le_refl _) m1, m2, m3, k4.trans m4, m5.trans k5⟩
     ·
      cases hop
    | false =>
     rw [opS_opV ha] at hop
     refine opP_ok hE hC S F hop hput ?_
     rintro a1 w1 ⟨β1, k1, k2, k3, k4, k5⟩
     refine wpAny_of_allOrd hE hC inj n _ hA k2 k3 (Nat.le_trans hn0 k5.n) (fun j c hj hc => ?_) ?_
     ·
      obtain ⟨c1, c2, c3⟩ := hs j c (un j hj).1 hc
      exact ⟨by rw [k1.keep c c3]; exact c1, c2, Nat.lt_of_lt_of_le c3 k5.n⟩
     ·
      rintro a2 w2 ⟨β2, m1, m2, m3, m4, m5⟩
      exact hQ _ _ ⟨β2, (k1.less hn0).trans (Nat.le_refl _) m1, m2, m3, k4.trans m4, m5.trans k5⟩
   ·
    simp only [hw, Bool.false_eq_true, if_false]
    exact wpAny_of_allOrd hE hC inj n _ hA S (F.put hput (VR.undef β)) hn0 (fun j c hj hc => hs j c (un j hj).1 hc) hQ
def toExit : Ex → Exit
 | .normal => .normal
 | .exit id => .exit id
 | .ret => .ret
def Post (P : Program) (Wr : Nat → Prop) (nt : Nat) (β : Inj) (hp : Heap) (w : World) (x : Ex) (fr' : Fr) (hp' : Heap) : Exit → Act → World → Prop :=
 fun e a' w' => e = toExit x ∧ At P Wr nt β hp w fr' hp' a' w'
theorem At.trans {P : Program} {Wr : Nat → Prop} {nt : Nat} {β β1 : Inj} {hp hp1 hp2 : Heap} {w w1 w2 : World} {fr2 : Fr} {a2 : Act} (k1 : Up hp.n β β1) (k4 : FrameW Wr w w1) (k5 : Lm hp hp1) (h : At P Wr nt β1 hp1 w1 fr2 hp2 a2 w2) : At P Wr nt β hp w fr2 hp2 a2 w2 := by
 obtain ⟨β2, m1, m2, m3, m4, m5⟩ := h
 exact ⟨β2, k1.trans k5.n m1, m2, m3, k4.trans m4, m5.trans k5⟩
theorem evalC_ok {E : Env} (hE : SideOK E) {call : FuncId → List Value → Heap → Option (Value × Heap)} (hE' : Framed call ∧ True) (hC : CallOK E.P call) {Wr : Nat → Prop} {nt lf : Nat} :
 ∀ (c : Code) {β : Inj} {hp hp' : Heap} {w : World} {fr fr' : Fr} {a : Act} {x : Ex}, lexOK E.P c = true → Sim E.P Wr β hp w → FR β nt fr a → evalC E nt call lf c fr hp = some (x, fr', hp') →
  c.wp E.P (Post E.P Wr nt β hp w x fr' hp') a w := by
 intro c
 induction c with
 | skip =>
  intro β hp hp' w fr fr' a x hlx S F h
  simp only [evalC] at h; cases h
  exact wp_skip ⟨rfl, β, Up.refl _ β, S, F, FrameW.refl _ _, Lm.refl _⟩
 | label l =>
  intro β hp hp' w fr fr' a x hlx S F h
  simp only [evalC] at h; cases h
  exact wp_label ⟨rfl, β, Up.refl _ β, S, F, FrameW.refl _ _, Lm.refl _⟩
 | region id ops draw =>
  intro β hp hp' w fr fr' a x hlx S F h
  simp only [evalC] at h
  cases draw with
  | false =>
   simp only [cond_false] at h
   split at h
   ·
    rename_i fr1 hp1 hr
    cases h
    refine wp_region ?_
    rw [List.range_eq_range', ← Array.length_toList]
    exact runOps_ok hE hC ops.toList 0 (by intro j; simp) S F hr (fun a' w' hA => ⟨rfl, hA⟩)
   ·
    cases h
  | true =>
   simp only [cond_true] at h
   simp only [lexOK, Bool.not_true, Bool.false_or] at hlx
   cases hq : quietR E.P ops with
   | false =>
    rw [hq] at h hlx
    simp only [cond_false] at h hlx
    split at h
    ·
     rename_i fr1 hp1 hr
     cases h
     obtain ⟨hlen, hinv⟩ := schedChk_inv hlx
     unfold runDrawn at hr
     have inj : ∀ i j b, slotL (slots ops hp.n) i = some b → slotL (slots ops hp.n) j = some b → i = j := fun i j b => slotsOf_inj _ _ i j b
     have tot : ∀ (i : Nat) (o : Oper), ops[i]? = some o → allocK o.op = true → ∃ b, slotL (slots ops hp.n) i = some b := fun i o ho ha => by
      have := slotsOf_tot ops.toList 0 hp.n i o (by simpa using ho) ha
      rwa [Nat.zero_add] at this
     obtain ⟨rn, rl, rg⟩ := resv_n (slots ops hp.n).length hp
     have sd : ∀ i b, slotL (slots ops hp.n) i = some b → hp.n ≤ b ∧ b < (resv (slots ops hp.n).length hp).n := fun i b hb => by
      have := slotsOf_ge _ _ _ _ hb
      rw [rn]; exact this
     refine wp_region_any hE.mixed (wpAny_of_allOrd hE hC inj (n0 := hp.n) _ _ (allOrd hE'.1 inj tot _ hlen hinv (fun x _ b hb => ?_) (runSched_run hr)) ((S.resv _).drawn _) F (by rw [rn]; omega) (fun i b _ hb => ?_) ?_)
     ·
      obtain ⟨q1, q2⟩ := sd _ _ hb
      refine ⟨?_, q2⟩
      rw [rg, if_pos ⟨q1, by rw [rn] at q2; exact q2⟩]
     ·
      obtain ⟨q1, q2⟩ := sd _ _ hb
      refine ⟨?_, q1, q2⟩
      cases e : β b with
      | none => rfl
      | some x => have := S.dom b x e; omega
     ·
      rintro a1 w1 ⟨β1, k1, k2, k3, k4, k5⟩
      exact ⟨rfl, β1, k1, k2, k3, ⟨k4.os, k4.tape, k4.output, k4.size, k4.block⟩, ⟨by rw [k5.lim, rl], by have := k5.n; rw [rn] at this; omega⟩⟩
    ·
     cases h
   | true =>
   rw [hq] at h hlx
   simp only [cond_true] at h hlx
   split at h
   ·
    rename_i fr1 hp1 hr
    cases h
    have := runQuiet_heap _ hr; subst this
    refine wp_region_quiet (C := fun w'' => Ext w w'') hE.mixed hlx ⟨rfl, rfl, rfl, Nat.le_refl _, fun _ _ => rfl⟩ ?_
    exact runQuiet_ok hE hC S _ F hr (fun a' F' w' he => ⟨rfl, β, Up.refl _ β, S.ext he, F', Ext.frame S he, Lm.refl _⟩)
   ·
    cases h
 | seq c1 c2 ih1 ih2 =>
  intro β hp hp' w fr fr' a x hlx S F h
  simp only [lexOK, Bool.and_eq_true] at hlx
  simp only [evalC] at h
  refine wp_seq ?_
  split at h
  ·
   rename_i fr1 hp1 h1
   refine wp_mono (ih1 hlx.1 S F h1) ?_
   rintro e a1 w1 ⟨rfl, β1, k1, k2, k3, k4, k5⟩
   refine wp_mono (ih2 hlx.2 k2 k3 h) ?_
   rintro e a2 w2 ⟨rfl, hA⟩
   exact ⟨rfl, hA.trans k1 k4 k5⟩
  ·
   rename_i hne
   refine wp_mono (ih1 hlx.1 S F h) ?_
   rintro e a1 w1 ⟨rfl, hA⟩
   cases x with
   | normal => exact (hne _ _ h).elim
   | exit id => exact ⟨rfl, hA⟩
   | ret => exact ⟨rfl, hA⟩
 | cond o c1 c2 ih1 ih2 =>
  intro β hp hp' w fr fr' a x hlx S F h
  simp only [lexOK, Bool.and_eq_true] at hlx
  simp only [evalC] at h
  split at h
  ·
   rename_i ho
   exact wp_cond_true (bool_of (ev_ok F ho)) (ih1 hlx.1 S F h)
  ·
   rename_i ho
   exact wp_cond_false (bool_of (ev_ok F ho)) (ih2 hlx.2 S F h)
  ·
   cases h
 | block id c ih =>
  intro β hp hp' w fr fr' a x hlx S F h
  simp only [lexOK] at hlx
  simp only [evalC] at h
  refine wp_block ?_
  split at h
  ·
   rename_i id' fr1 hp1 h1
   refine wp_mono (ih hlx S F h1) ?_
   rintro e a1 w1 ⟨rfl, hA⟩
   simp only [toExit, Exit.inBlock]
   split at h
   ·
    rename_i e; subst e; cases h; rw [if_pos rfl]; exact ⟨rfl, hA⟩
   ·
    rename_i e; cases h; rw [if_neg e]; exact ⟨rfl, hA⟩
  ·
   rename_i hne
   refine wp_mono (ih hlx S F h) ?_
   rintro e a1 w1 ⟨rfl, hA⟩
   cases x with
   | normal => exact ⟨rfl, hA⟩
   | exit id' => exact (hne _ _ _ h).elim
   | ret => exact ⟨rfl, hA⟩
 | loop c ih =>
  intro β hp hp' w fr fr' a x hlx S F h
  simp only [lexOK] at hlx
  simp only [evalC] at h
  refine wp_loop_ghost (fun n a1 w1 => ∃ fr1 hp1 β1, Up hp.n β β1 ∧ Sim E.P Wr β1 hp1 w1 ∧ FR β1 nt fr1 a1 ∧ FrameW Wr w w1 ∧ Lm hp hp1 ∧ iter (fun fr h => evalC E nt call lf c fr h) n fr1 hp1 = some (x, fr', hp')) lf
   ⟨fr, hp, β, Up.refl _ β, S, F, FrameW.refl _ _, Lm.refl _, h⟩ ?_
  rintro n a1 w1 ⟨fr1, hp1, β1, k1, k2, k3, k4, k5, hit⟩
  cases n with
  | zero => simp [iter] at hit
  | succ n =>
   simp only [iter] at hit
   split at hit
   ·
    rename_i fr2 hp2 h2
    refine wp_mono (ih hlx k2 k3 h2) ?_
    rintro e a2 w2 ⟨rfl, β2, m1, m2, m3, m4, m5⟩
    exact ⟨n, Nat.lt_succ_self n, fr2, hp2, β2, k1.trans k5.n m1, m2, m3, k4.trans m4, m5.trans k5, hit⟩
   ·
    rename_i hne
    refine wp_mono (ih hlx k2 k3 hit) ?_
    rintro e a2 w2 ⟨rfl, hA⟩
    cases x with
    | normal => exact (hne _ _ hit).elim
    | exit id => exact ⟨rfl, hA.trans k1 k4 k5⟩
    | ret => exact ⟨rfl, hA.trans k1 k4 k5⟩
 | exit id =>
  intro β hp hp' w fr fr' a x hlx S F h
  simp only [evalC] at h; cases h
  exact wp_exit ⟨rfl, β, Up.refl _ β, S, F, FrameW.refl _ _, Lm.refl _⟩
 | scope c ih =>
  intro β hp hp' w fr fr' a x hlx S F h
  simp only [lexOK] at hlx
  simp only [evalC] at h
  refine wp_scope_straight (wp_mono (ih hlx S F h) ?_)
  rintro e a1 w1 ⟨rfl, hA⟩
  cases x <;> exact ⟨rfl, hA⟩
 | ret =>
  intro β hp hp' w fr fr' a x hlx S F h
  simp only [evalC] at h; cases h
  exact wp_ret ⟨rfl, β, Up.refl _ β, S, F, FrameW.refl _ _, Lm.refl _⟩
 | goto l => intro β hp hp' w fr fr' a x hlx S F h; simp [evalC] at h
 | refuse s => intro β hp hp' w fr fr' a x hlx S F h; simp [evalC] at h
 | rangeFunc f p c1 c2 ih1 ih2 => intro β hp hp' w fr fr' a x hlx S F h; simp [evalC] at h
theorem initF_at : ∀ (l : List Value) (i : Nat) (fr : Fr) (t : Nat), Fr.at (initF l i fr) t = if i ≤ t ∧ t < i + l.length then l.getD (t - i) undef else fr.at t
 | [], i, fr, t => by simp only [initF, List.length_nil]; rw [if_neg (by omega)]
 | v :: l, i, fr, t => by
  simp only [initF, List.length_cons]
  rw [initF_at l (i + 1) _ t, Fr.at_set]
  by_cases h1 : i + 1 ≤ t ∧ t < i + 1 + l.length
  ·
   rw [if_pos h1, if_pos (by omega)]
   rw [show t - i = (t - (i + 1)) + 1 by omega]; rfl
  ·
   rw [if_neg h1]
   by_cases h2 : i = t
   ·
    subst h2; rw [if_pos rfl, if_pos (by omega)]; simp
   ·
    rw [if_neg h2, if_neg (by omega)]
theorem init_ok {β : Inj} {args : List Value} {args' : Array Value} {nt : Nat} (h : VRs β args args'.toList) (hn : args.length ≤ nt) :
 FR β nt (initF args 0 .nil) { tmps := args' ++ Array.replicate (nt - args'.size) Go.undef, defers := [] } := by
 have hl : args.length = args'.size := by simpa using h.len
 refine ⟨by simp; omega, rfl, fun t => ?_⟩
 rw [initF_at]
 simp only [Array.getD_eq_getD_getElem?, Array.getElem?_append, Array.getElem?_replicate]
 by_cases ht : t < args'.size
 ·
  rw [if_pos (by omega), if_pos ht]
  have : ∃ v, args[t]? = some v := ⟨args[t]'(by omega), by rw [List.getElem?_eq_getElem]⟩
  obtain ⟨v, hv⟩ := this
  obtain ⟨v', e1, e2⟩ := h.get t hv
  have e3 : args'[t]? = some v' := by rw [← Array.getElem?_toList]; exact e1
  rw [e3]; simpa [List.getD, hv] using e2
 ·
  rw [if_neg (by omega), if_neg ht]
  split <;> exact VR.undef β
theorem result_ok {E : Env} {Wr : Nat → Prop} {β : Inj} {hp : Heap} {w : World} (S : Sim E.P Wr β hp w) {nt : Nat} {fr : Fr} {a : Act} (F : FR β nt fr a) : ∀ (rs : List ResultVar) (l : List Value), resultsV E fr hp rs = some l →
 ∃ l', VRs β l l' ∧ (rs.mapM fun | .tmp t => pure (a.tmps.getD t Go.undef) | .cell x t => do loadVar t (← asAddr (a.tmps.getD x Go.undef)) : Sem (List Value)).run E.P w = .ok l' w
 | [], l, h => by simp [resultsV] at h; subst h; exact ⟨[], .nil, rfl⟩
 | r :: rs, l, h => by
  simp only [resultsV] at h
  split at h
  ·
   rename_i v hv
   split at h
   ·
    rename_i l1 hl1
    cases h
    obtain ⟨l', h1, h2⟩ := result_ok S F rs l1 hl1
    cases r with
    | tmp t =>
     simp only [resultV] at hv; cases hv
     refine ⟨_ :: l', .cons (F.at_ t) h1, ?_⟩
     simp only [List.mapM_cons, Sem.run_bind, Sem.run_pure, Result.andThen_ok, h2]
    | cell x t =>
     simp only [resultV] at hv
     split at hv
     ·
      rename_i p hx
      obtain ⟨y, hy, hA⟩ : ∃ y, a.tmps.getD x Go.undef = y ∧ VR β (fr.at x) y := ⟨_, rfl, F.at_ x⟩
      rw [hx] at hA
      cases hA with | @ptr _ p' hA => ?_
      obtain ⟨v', g1, g2⟩ := loadV_ok S hA hv
      refine ⟨v' :: l', .cons g1 h1, ?_⟩
      have ha : (asAddr (a.tmps.getD x Go.undef)).run E.P w = .ok p' w := by rw [hy]; rfl
      simp only [List.mapM_cons, Sem.run_bind, ha, Sem.run_pure, Result.andThen_ok, g2 w (Ext.refl w), h2]
     ·
      cases hv
   ·
    cases h
  ·
   cases h
theorem pack_ok {β : Inj} {l l' : List Value} (h : VRs β l l') : VR β (packV l) (if h : l'.toArray.size = 1 then l'.toArray[0] else .tuple l'.toArray) := by
 cases h with
 | nil => exact .tuple .nil
 | cons h1 r =>
  cases r with
  | nil => exact h1
  | cons h2 r' =>
   rw [dif_neg (by simp)]
   exact .tuple (by simpa using VRs.cons h1 (VRs.cons h2 r'))
theorem run_ok {E : Env} (hE : SideOK E) : ∀ n, CallOK E.P (run E n)
 | 0 => by intro g args hp v hp' h; simp [run] at h
 | n + 1 => by
  intro g args hp v hp' h Wr β w args' S hargs
  simp only [run] at h
  split at h
  ·
   rename_i p hp0
   exact hE.prim g p hp0 args hp v hp' h Wr β w args' S hargs
  ·
   rename_i hprim
   split at h
   ·
    cases h
   ·
    rename_i fn hf
    split at h
    ·
     cases h
    ·
     rename_i c hc
     obtain ⟨hn, h⟩ := bif_some h
     have hn := Nat.le_of_ble_eq_true hn
     have hl : args.length = args'.size := by simpa using hargs.len
     have F := init_ok hargs hn
     split at h
     ·
      cases h
     ·
      rename_i x fr1 hp1 hne hev
      split at h
      ·
       rename_i l hres
       cases h
       refine calls_of_wp hf hc (wp_mono (evalC_ok hE ⟨run_msk hE.framed n, trivial⟩ (run_ok hE n) c (hE.lex g fn c hf hc hprim) S F hev) ?_)
       rintro e a1 w1 ⟨rfl, β1, k1, k2, k3, k4, k5⟩
       obtain ⟨l', r1, r2⟩ := result_ok k2 k3 _ _ hres
       have fin : a1.defers = [] ∧ ∃ v, (results fn a1.tmps).run E.P w1 = .ok v w1 ∧ Out E.P Wr β hp hp' (packV l) w (.returned v) w1 := by
        refine ⟨k3.defers, _, ?_, _, β1, rfl, k1, k2, pack_ok r1, k4, k5⟩
        unfold results
        rw [Array.mapM_eq_mapM_toList]
        refine (Sem.run_bind _ _ _ _).trans ?_
        refine (congrArg (fun r => Result.andThen r _) ((Sem.run_map _ _ _ _).trans (congrArg (fun r => Result.andThen r _) r2))).trans ?_
        rfl
       cases x with
       | normal => exact fin
       | exit id => exact (hne _ rfl).elim
       | ret => exact fin
      ·
       cases h
     ·
      cases h
end Go.Proofs.YtokfjifeofpkkaaGreat.V
namespace Go.Proofs.YtokfjifeofpkkaaGreat.V
open Go
set_option linter.unusedVariables false
set_option linter.unusedSimpArgs false
def SL (h : Heap) (k : Nat) (a : Option Addr) (rows : List (List Value)) : Prop :=
 ∀ (i : Nat) (r : List Value), rows[i]? = some r → r.length = k ∧ ∃ a0 a', a = some a0 ∧ elemAddr a0 (i * k) = some a' ∧ cellsAt h a' k = some r
structure Wf (h : Heap) : Prop where
 lt : ∀ b o, h.get b = some o → b < h.n
 lim : h.lim ≤ h.n
structure Kn (h h' : Heap) : Prop where
 base : h'.base = h.base
 get : ∀ b o, h.get b = some o → o ≠ .dead → h'.get b = some o
structure HExt (h h' : Heap) : Prop where
 base : h'.base = h.base
 lim : h'.lim = h.lim
 n : h.n ≤ h'.n
 get : ∀ b o, h.get b = some o → o ≠ .dead → h'.get b = some o
 wf : Wf h → Wf h'
theorem HExt.kn {h h' : Heap} (e : HExt h h') : Kn h h' := ⟨e.base, e.get⟩
theorem Kn.refl (h : Heap) : Kn h h := ⟨rfl, fun _ _ h _ => h⟩
theorem Kn.trans {a b c : Heap} (h : Kn a b) (k : Kn b c) : Kn a c := ⟨k.base.trans h.base, fun x o hx ho => k.get x o (h.get x o hx ho) ho⟩
theorem Kn.limN {a b : Heap} (h : Kn a b) (n : Nat) : Kn a { b with lim := n } := ⟨h.base, h.get⟩
theorem Wf.limN {a : Heap} (h : Wf a) : Wf { a with lim := a.n } := ⟨h.lt, Nat.le_refl _⟩
theorem HExt.refl (h : Heap) : HExt h h := ⟨rfl, rfl, Nat.le_refl _, fun _ _ h _ => h, id⟩
theorem HExt.trans {a b c : Heap} (h : HExt a b) (k : HExt b c) : HExt a c :=
 ⟨k.base.trans h.base, k.lim.trans h.lim, Nat.le_trans h.n k.n, fun x o hx ho => k.get x o (h.get x o hx ho) ho, fun w => k.wf (h.wf w)⟩
theorem Wf.alloc {h : Heap} (hw : Wf h) (o : O) : Wf (h.alloc o) := by
 refine ⟨fun b o' hb => ?_, Nat.le_succ_of_le hw.lim⟩
 rw [get_alloc] at hb
 show b < h.n + 1
 split at hb
 ·
  omega
 ·
  have := hw.lt b o' hb; omega
theorem HExt.alloc {h : Heap} (hw : Wf h) (o : O) : HExt h (h.alloc o) :=
 ⟨rfl, rfl, Nat.le_succ _, fun b o' hb _ => by rw [get_alloc, if_neg (by have := hw.lt b o' hb; omega)]; exact hb, fun w => w.alloc o⟩
def Ev (E : Env) (f : FuncId) (args : List Value) (h : Heap) (Q : Value → Heap → Prop) : Prop :=
 ∃ n v h', run E n f args h = some (v, h') ∧ HExt h h' ∧ Q v h'
theorem Kn.baseCells {h h' : Heap} (e : Kn h h') (b : Nat) : ∀ (n o : Nat), baseCells h' b o n = V.baseCells h b o n
 | 0, o => rfl
 | n + 1, o => by simp only [V.baseCells, e.base, Kn.baseCells e b n]
theorem Kn.cellsAt {h h' : Heap} (e : Kn h h') {a : Addr} {n : Nat} {l : List Value} (hc : cellsAt h a n = some l) : V.cellsAt h' a n = some l := by
 unfold V.cellsAt at hc ⊢
 split at hc
 ·
  split at hc
  ·
   rename_i c T hg; rw [e.get _ _ hg (by intro q; cases q)]; exact hc
  ·
   cases hc
 ·
  rw [e.baseCells]; exact hc
 ·
  cases hc
theorem Kn.cellAt {h h' : Heap} (e : Kn h h') {a : Addr} {v : Value} (hc : cellAt h a = some v) : V.cellAt h' a = some v := by
 unfold V.cellAt at hc ⊢
 split at hc
 ·
  split at hc
  ·
   rename_i c T hg; rw [e.get _ _ hg (by intro q; cases q)]; exact hc
  ·
   cases hc
 ·
  rw [e.base]; exact hc
 ·
  cases hc
theorem SL.ext {h h' : Heap} (e : Kn h h') {k : Nat} {a : Option Addr} {rows : List (List Value)} (s : SL h k a rows) : SL h' k a rows := by
 intro i r hr
 obtain ⟨h0, a0, a', h1, h2, h3⟩ := s i r hr
 exact ⟨h0, a0, a', h1, h2, e.cellsAt h3⟩
theorem run_step {E : Env} {n : Nat} {f : FuncId} {args : List Value} {h : Heap} (hp : E.prim f = none) {fn : Func} (hf : E.P.funcs[f]? = some fn) {c : Code} (hc : fn.body = some c) :
 run E (n + 1) f args h = (bif Nat.ble args.length fn.ntmps then
  match evalC E fn.ntmps (run E n) n c (initF args 0 .nil) h with
  | some (.exit _, _, _) => none
  | some (_, fr, h') => match resultsV E fr h' fn.results.toList with
   | some l => some (packV l, h')
   | none => none
  | none => none
 else none) := by
 simp only [run, hp, hf, hc]
 rfl
@[simp] theorem at_nil (t : Nat) : Fr.at (.nil : Fr) t = undef := rfl
theorem put_lt {nt : Nat} {fr : Fr} {d : Nat} {v : Value} (h : Nat.blt d nt = true) : Fr.put nt fr (some d) v = some (fr.set d v) := by simp only [Fr.put, h, cond_true]
end Go.Proofs.YtokfjifeofpkkaaGreat.V
namespace Go.Proofs.YtokfjifeofpkkaaGreat.V
open Go
set_option linter.unusedVariables false
set_option linter.unusedSimpArgs false
def CLe (c d : FuncId → List Value → Heap → Option (Value × Heap)) : Prop := ∀ g args h r, c g args h = some r → d g args h = some r
section
variable {E : Env} {c d : FuncId → List Value → Heap → Option (Value × Heap)}
theorem opP_of_opV {E : Env} {c : FuncId → List Value → Heap → Option (Value × Heap)} {fr : Fr} {h : Heap} {op : Op} {r : Value × Heap} (e : opV E c fr h op = some r) : opP E c fr h op = some r := by
 unfold opP; rw [e]
theorem opV_le (hc : CLe c d) {fr : Fr} {h : Heap} {op : Op} {r : Value × Heap} (e : opV E c fr h op = some r) : opV E d fr h op = some r := by
 unfold opV at e ⊢
 split at e
 ·
  exact e
 ·
  split at e
  ·
   exact e
  ·
   split at e
   ·
    exact hc _ _ _ _ e
   ·
    cases e
theorem opP_le (hc : CLe c d) {fr : Fr} {h : Heap} {op : Op} {r : Value × Heap} (e : opP E c fr h op = some r) : opP E d fr h op = some r := by
 unfold opP at e
 split at e
 ·
  rename_i r' e1; cases e; exact opP_of_opV (opV_le hc e1)
 ·
  split at e
  ·
   rename_i g args e2
   unfold opP; rw [opV_none_of_promo e2 h, e2]; exact hc _ _ _ _ e
  ·
   unfold opP; rw [(opV_none_of_maps (call := d) e h).1, (opV_none_of_maps (call := d) e h).2]; exact e
theorem quietV_le (hc : CLe c d) {fr : Fr} {h : Heap} {op : Op} {r : Value} (e : quietV E c fr h op = some r) : quietV E d fr h op = some r := by
 unfold quietV at e ⊢
 split at e
 ·
  exact e
 ·
  split at e
  ·
   split at e
   ·
    rename_i e1; rw [hc _ _ _ _ e1]; exact e
   ·
    cases e
  ·
   cases e
theorem runOps_le (hc : CLe c d) {nt : Nat} {ops : Array Oper} : ∀ (os : List Oper) {fr : Fr} {h : Heap} {r : Fr × Heap}, runOps E nt c ops os fr h = some r → runOps E nt d ops os fr h = some r := by
 intro os
 induction os with
 | nil => intro fr h r e; exact e
 | cons o os ih =>
  intro fr h r e
  unfold runOps at e ⊢
  cases w : wantedV ops fr o with
  | true =>
   rw [w] at e
   simp only [cond_true] at e ⊢
   split at e
   ·
    rename_i e1; rw [opP_le hc e1]; dsimp only
    split at e
    ·
     exact ih e
    ·
     cases e
   ·
    cases e
  | false =>
   rw [w] at e
   simp only [cond_false] at e ⊢
   split at e
   ·
    exact ih e
   ·
    cases e
theorem runQuiet_le (hc : CLe c d) {nt : Nat} {ops : Array Oper} : ∀ (os : List Oper) {fr : Fr} {h : Heap} {r : Fr × Heap}, runQuiet E nt c ops os fr h = some r → runQuiet E nt d ops os fr h = some r := by
 intro os
 induction os with
 | nil => intro fr h r e; exact e
 | cons o os ih =>
  intro fr h r e
  unfold runQuiet at e ⊢
  cases w : wantedV ops fr o with
  | true =>
   rw [w] at e
   simp only [cond_true] at e ⊢
   split at e
   ·
    rename_i e1; rw [quietV_le hc e1]; dsimp only
    split at e
    ·
     exact ih e
    ·
     cases e
   ·
    cases e
  | false =>
   rw [w] at e
   simp only [cond_false] at e ⊢
   split at e
   ·
    exact ih e
   ·
    cases e
theorem opS_le (hc : CLe c d) {sl : List (Nat × Nat)} {i : Nat} {fr : Fr} {h : Heap} {op : Op} {r : Value × Heap} (e : opS E c sl i fr h op = some r) : opS E d sl i fr h op = some r := by
 unfold opS at e ⊢
 cases ha : allocK op with
 | false => rw [ha] at e; exact opP_le hc e
 | true => rw [ha] at e; exact e
theorem runSched_le (hc : CLe c d) {nt : Nat} {ops : Array Oper} {sl : List (Nat × Nat)} : ∀ (os : List (Nat × List Nat)) {fr : Fr} {h : Heap} {r : Fr × Heap}, runSched E nt c ops sl os fr h = some r → runSched E nt d ops sl os fr h = some r := by
 intro os
 induction os with
 | nil => intro fr h r e; exact e
 | cons o os ih =>
  intro fr h r e
  obtain ⟨i, ck⟩ := o
  unfold runSched at e ⊢
  cases ho : ops[i]? with
  | none => rw [ho] at e; cases e
  | some o =>
   rw [ho] at e
   dsimp only at e ⊢
   cases w : wantedV ops fr o with
   | true =>
    rw [w] at e
    simp only [cond_true] at e ⊢
    split at e
    ·
     rename_i e1; rw [opS_le hc e1]; dsimp only
     obtain ⟨q, e⟩ := bif_some e
     rw [q]
     simp only [cond_true]
     split at e
     ·
      exact ih e
     ·
      cases e
    ·
     cases e
   | false =>
    rw [w] at e
    simp only [cond_false] at e ⊢
    split at e
    ·
     exact ih e
    ·
     cases e
def FLe (F G : Fr → Heap → Option (Ex × Fr × Heap)) : Prop := ∀ fr h r, F fr h = some r → G fr h = some r
theorem iter_le {F G : Fr → Heap → Option (Ex × Fr × Heap)} (hF : FLe F G) : ∀ {k l : Nat}, k ≤ l → FLe (iter F k) (iter G l) := by
 intro k
 induction k with
 | zero => intro l _ fr h r e; cases e
 | succ k ih =>
  intro l hl fr h r e
  cases l with
  | zero => omega
  | succ l =>
   unfold iter at e ⊢
   split at e
   ·
    rename_i e1; rw [hF _ _ _ e1]; exact ih (by omega) _ _ _ e
   ·
    rename_i hne
    rw [hF _ _ _ e]
    obtain ⟨x, fr1, h1⟩ := r
    cases x with
    | normal => exact absurd e (hne _ _)
    | exit i => rfl
    | ret => rfl
theorem evalC_le (hc : CLe c d) {nt k l : Nat} (hk : k ≤ l) : ∀ p : Code, FLe (evalC E nt c k p) (evalC E nt d l p) := by
 intro p
 induction p with
 | region id ops draw =>
  intro fr h r e
  unfold evalC at e ⊢
  cases draw with
  | true =>
   simp only [cond_true] at e ⊢
   cases hq : quietR E.P ops with
   | true =>
    rw [hq] at e
    simp only [cond_true] at e ⊢
    split at e
    ·
     rename_i e1; rw [runQuiet_le hc _ e1]; exact e
    ·
     cases e
   | false =>
    rw [hq] at e
    simp only [cond_false] at e ⊢
    split at e
    ·
     rename_i e1; rw [show runDrawn E nt d ops fr h = _ from runSched_le hc _ e1]; exact e
    ·
     cases e
  | false =>
   simp only [cond_false] at e ⊢
   split at e
   ·
    rename_i e1; rw [runOps_le hc _ e1]; exact e
   ·
    cases e
 | seq a b iha ihb =>
  intro fr h r e
  unfold evalC at e ⊢
  split at e
  ·
   rename_i e1; rw [iha _ _ _ e1]; exact ihb _ _ _ e
  ·
   rename_i hne
   rw [iha _ _ _ e]
   obtain ⟨x, fr1, h1⟩ := r
   cases x with
   | normal => exact absurd e (hne _ _)
   | exit i => rfl
   | ret => rfl
 | cond x a b iha ihb =>
  intro fr h r e
  unfold evalC at e ⊢
  split at e
  ·
   exact iha _ _ _ e
  ·
   exact ihb _ _ _ e
  ·
   cases e
 | block id body ih =>
  intro fr h r e
  unfold evalC at e ⊢
  split at e
  ·
   rename_i e1; rw [ih _ _ _ e1]; exact e
  ·
   rename_i hne
   rw [ih _ _ _ e]
   obtain ⟨x, fr1, h1⟩ := r
   cases x with
   | exit i => exact absurd e (hne _ _ _)
   | normal => rfl
   | ret => rfl
 | loop body ih =>
  intro fr h r e
  unfold evalC at e ⊢
  exact iter_le (fun fr h r e => ih fr h r e) hk _ _ _ e
 | scope body ih =>
  intro fr h r e
  unfold evalC at e ⊢
  exact ih _ _ _ e
 | skip => intro fr h r e; exact e
 | label l => intro fr h r e; exact e
 | exit id => intro fr h r e; exact e
 | ret => intro fr h r e; exact e
 | _ => intro fr h r e; simp only [evalC] at e; cases e
end
theorem run_succ {E : Env} : ∀ n, CLe (run E n) (run E (n + 1)) := by
 intro n
 induction n with
 | zero => intro g args h r e; cases e
 | succ n ih =>
  intro g args h r e
  unfold run at e ⊢
  split at e
  ·
   exact e
  ·
   split at e
   ·
    cases e
   ·
    split at e
    ·
     cases e
    ·
     rename_i fn hfn _ cd hb
     cases e0 : Nat.ble args.length fn.ntmps with
     | false => rw [e0] at e; cases e
     | true =>
      rw [e0] at e
      simp only [cond_true] at e ⊢
      split at e
      ·
       cases e
      ·
       rename_i x fr h1 hne e1
       rw [evalC_le ih (Nat.le_succ n) cd _ _ _ e1]
       cases x with
       | exit i => exact (hne _ rfl).elim
       | normal => exact e
       | ret => exact e
      ·
       cases e
theorem run_le {E : Env} {n m : Nat} (h : n ≤ m) : CLe (run E n) (run E m) := by
 induction h with
 | refl => intro g args h r e; exact e
 | step _ ih => intro g args h r e; exact run_succ _ _ _ _ _ (ih _ _ _ _ e)
end Go.Proofs.YtokfjifeofpkkaaGreat.V
namespace Go.Proofs.YtokfjifeofpkkaaGreat.V
open Go
set_option linter.unusedVariables false
set_option linter.unusedSimpArgs false
abbrev L := List (Nat × Bool × Value)
def lk : L → Nat → Option (Bool × Value)
 | [], _ => none
 | (k, g, v) :: r, t => bif Nat.beq k t then some (g, v) else lk r t
def Agree (l : L) (fr : Fr) : Prop := ∀ t g v, lk l t = some (g, v) → fr.get t = some (bif g then v else undef)
theorem Agree.nil (fr : Fr) : Agree [] fr := fun _ _ _ h => by cases h
theorem Agree.set {l : L} {fr : Fr} (a : Agree l fr) (d : Nat) (g : Bool) (v : Value) : Agree ((d, g, v) :: l) (fr.set d (bif g then v else undef)) := by
 intro t g' v' h
 unfold lk at h
 by_cases e : d = t
 ·
  subst e
  have : Nat.beq d d = true := Nat.beq_refl d
  rw [this] at h
  simp only [cond_true, Option.some.injEq, Prod.mk.injEq] at h
  obtain ⟨h1, h2⟩ := h
  subst h1 h2
  exact Trie.get_set_same _ _ _
 ·
  rw [Trie.nb e] at h
  rw [Trie.get_set_ne _ e]
  exact a t g' v' h
theorem Agree.at {l : L} {fr : Fr} (a : Agree l fr) {t : Nat} {g : Bool} {v : Value} (h : lk l t = some (g, v)) : fr.at t = (bif g then v else undef) := by
 unfold Fr.at; rw [a t g v h]
def Sub (m l : L) : Prop := ∀ t g v, lk m t = some (g, v) → lk l t = some (g, v)
theorem Sub.agree {m l : L} (s : Sub m l) {fr : Fr} (a : Agree l fr) : Agree m fr := fun t g v h => a t g v (s t g v h)
theorem Sub.nil (l : L) : Sub [] l := fun _ _ _ h => by cases h
theorem Sub.cons {m l : L} (s : Sub m l) {t : Nat} {g : Bool} {v : Value} (h : lk l t = some (g, v)) : Sub ((t, g, v) :: m) l := by
 intro t' g' v' e
 unfold lk at e
 by_cases q : t = t'
 ·
  subst q
  have : Nat.beq t t = true := Nat.beq_refl t
  rw [this] at e
  simp only [cond_true, Option.some.injEq, Prod.mk.injEq] at e
  obtain ⟨h1, h2⟩ := e
  subst h1 h2
  exact h
 ·
  rw [Trie.nb q] at e
  exact s t' g' v' e
structure Blk where
 b : Nat
 o : O
def inOwn (own : List Blk) (b : Nat) : Bool := own.any (fun e => Nat.beq e.b b)
theorem inOwn_iff {own : List Blk} {b : Nat} : inOwn own b = true ↔ ∃ e ∈ own, e.b = b := by
 unfold inOwn
 rw [List.any_eq_true]
 constructor
 ·
  rintro ⟨e, he, hb⟩; exact ⟨e, he, Nat.eq_of_beq_eq_true hb⟩
 ·
  rintro ⟨e, he, hb⟩; exact ⟨e, he, by subst hb; exact Nat.beq_refl _⟩
structure Has (own : List Blk) (h0 h : Heap) (hf : Heap) : Prop where
 ext : HExt h0 hf
 wf : Wf hf
 msk : Msk (inOwn own) hf h
 blk : ∀ e ∈ own, h.get e.b = some e.o ∧ h.lim ≤ e.b
 nd : (own.map Blk.b).Nodup
theorem Msk.congr {S S' : Nat → Bool} {f h : Heap} (m : Msk S f h) (e : ∀ b, S b = S' b) : Msk S' f h := by
 have : S = S' := funext e
 subst this; exact m
namespace Has
variable {own : List Blk} {h0 h hf : Heap}
theorem nil {h : Heap} (w : Wf h) : Has [] h h h :=
 ⟨HExt.refl h, w, ⟨rfl, rfl, rfl, fun _ e => (by cases e), fun _ _ => rfl, fun _ e => (by cases e)⟩, fun _ e => (by cases e), List.nodup_nil⟩
theorem hext (m : Has own h0 h hf) : HExt h0 h := by
 refine ⟨m.msk.base.trans m.ext.base, m.msk.lim.trans m.ext.lim, by rw [m.msk.n]; exact m.ext.n, fun b o hb ho => ?_, fun _ => ⟨fun b o hb => ?_, by rw [m.msk.lim, m.msk.n]; exact m.wf.lim⟩⟩
 ·
  have h1 := m.ext.get b o hb ho
  rw [m.msk.get b (m.msk.out h1 ho)]; exact h1
 ·
  rw [m.msk.n]
  cases e : inOwn own b with
  | true => exact m.msk.lt b e
  | false => rw [m.msk.get b e] at hb; exact m.wf.lt b o hb
theorem perm (m : Has own h0 h hf) {own' : List Blk} (p : own.Perm own') : Has own' h0 h hf :=
 ⟨m.ext, m.wf, m.msk.congr (fun b => Bool.eq_iff_iff.mpr (by rw [inOwn_iff, inOwn_iff]; exact ⟨fun ⟨e, he, hb⟩ => ⟨e, p.mem_iff.mp he, hb⟩, fun ⟨e, he, hb⟩ => ⟨e, p.mem_iff.mpr he, hb⟩⟩)),
  fun e he => m.blk e (p.mem_iff.mpr he), (p.map Blk.b).nodup_iff.mp m.nd⟩
theorem io_cons (e : Blk) (own : List Blk) (b : Nat) : inOwn (e :: own) b = (Nat.beq e.b b || inOwn own b) := rfl
theorem alloc (m : Has own h0 h hf) (o : O) : Has (⟨h.n, o⟩ :: own) h0 (h.alloc o) (hf.alloc .dead) := by
 have hn := m.msk.n
 refine ⟨m.ext.trans (HExt.alloc m.wf _), m.wf.alloc _, ⟨m.msk.base, m.msk.lim, by show h.n + 1 = hf.n + 1; rw [hn], ?_, ?_, ?_⟩, ?_, ?_⟩
 ·
  intro b hb
  rw [get_alloc]
  by_cases e : hf.n = b
  ·
   rw [if_pos e]
  ·
   rw [if_neg e]
   rw [io_cons, Bool.or_eq_true] at hb
   rcases hb with q | q
   ·
    exact absurd (Nat.eq_of_beq_eq_true q) (by rw [hn]; exact e)
   ·
    exact m.msk.dead b q
 ·
  intro b hb
  rw [io_cons, Bool.or_eq_false_iff] at hb
  have e : ¬ h.n = b := by intro e; subst e; have := hb.1; rw [Nat.beq_refl] at this; cases this
  rw [get_alloc, if_neg e, get_alloc, if_neg (by rw [← hn]; exact e)]
  exact m.msk.get b hb.2
 ·
  intro b hb
  rw [io_cons, Bool.or_eq_true] at hb
  show b < hf.n + 1
  rcases hb with q | q
  ·
   have := Nat.eq_of_beq_eq_true q; dsimp only at this; omega
  ·
   exact Nat.lt_succ_of_lt (m.msk.lt b q)
 ·
  intro e he
  rcases List.mem_cons.mp he with q | q
  ·
   subst q
   refine ⟨by rw [get_alloc, if_pos rfl], ?_⟩
   show h.lim ≤ h.n
   rw [m.msk.lim, hn]; exact m.wf.lim
  ·
   have ho := m.blk e q
   have lt := m.msk.lt e.b (inOwn_iff.mpr ⟨e, q, rfl⟩)
   exact ⟨by rw [get_alloc, if_neg (by omega)]; exact ho.1, ho.2⟩
 ·
  rw [List.map_cons, List.nodup_cons]
  refine ⟨fun hm => ?_, m.nd⟩
  obtain ⟨e, he, hb⟩ := List.mem_map.mp hm
  have lt := m.msk.lt e.b (inOwn_iff.mpr ⟨e, he, rfl⟩)
  have : e.b = h.n := hb
  omega
theorem storeH {b : Nat} {o : O} (m : Has (⟨b, o⟩ :: own) h0 h hf) (o' : O) : Has (⟨b, o'⟩ :: own) h0 (h.set b o') hf := by
 have hb : inOwn (⟨b, o⟩ :: own) b = true := inOwn_iff.mpr ⟨_, List.mem_cons_self, rfl⟩
 have nd := m.nd
 rw [List.map_cons, List.nodup_cons] at nd
 refine ⟨m.ext, m.wf, ?_, ?_, m.nd⟩
 ·
  have e : Msk (inOwn (⟨b, o⟩ :: own)) hf (h.set b o') := ⟨m.msk.base, m.msk.lim, m.msk.n, m.msk.dead, fun x hx => by
   rw [get_set, if_neg (by intro e; subst e; rw [hb] at hx; cases hx)]; exact m.msk.get x hx, m.msk.lt⟩
  exact e
 ·
  intro e he
  rcases List.mem_cons.mp he with q | q
  ·
   subst q
   exact ⟨by rw [get_set, if_pos rfl], (m.blk _ List.mem_cons_self).2⟩
  ·
   have ho := m.blk e (List.mem_cons_of_mem _ q)
   have : b ≠ e.b := fun x => nd.1 (by rw [show (⟨b, o⟩ : Blk).b = e.b from x]; exact List.mem_map_of_mem q)
   exact ⟨by rw [get_set, if_neg this]; exact ho.1, ho.2⟩
theorem killH {e : Blk} (m : Has (e :: own) h0 h hf) : Has own h0 (h.set e.b .dead) hf := by
 have nd := m.nd
 rw [List.map_cons, List.nodup_cons] at nd
 have hb : inOwn (e :: own) e.b = true := inOwn_iff.mpr ⟨_, List.mem_cons_self, rfl⟩
 refine ⟨m.ext, m.wf, ⟨m.msk.base, m.msk.lim, m.msk.n, fun x hx => m.msk.dead x (by rw [io_cons, hx, Bool.or_true]), fun x hx => ?_, fun x hx => m.msk.lt x (by rw [io_cons, hx, Bool.or_true])⟩, ?_, nd.2⟩
 ·
  rw [get_set]
  split
  ·
   rename_i q; subst q; exact (m.msk.dead _ hb).symm
  ·
   rename_i q; exact m.msk.get x (by rw [io_cons, hx, Trie.nb q]; rfl)
 ·
  intro x hx
  have ho := m.blk x (List.mem_cons_of_mem _ hx)
  have : e.b ≠ x.b := fun q => nd.1 (by rw [q]; exact List.mem_map_of_mem hx)
  exact ⟨by rw [get_set, if_neg this]; exact ho.1, ho.2⟩
theorem pubH {b : Nat} {o : O} (m : Has (⟨b, o⟩ :: own) h0 h hf) : Has own h0 h (hf.set b o) := by
 have nd := m.nd
 rw [List.map_cons, List.nodup_cons] at nd
 have hb : inOwn (⟨b, o⟩ :: own) b = true := inOwn_iff.mpr ⟨_, List.mem_cons_self, rfl⟩
 have hd := m.msk.dead b hb
 have hlt := m.msk.lt b hb
 have nb : ∀ x, inOwn own x = true → b ≠ x := by
  intro x hx e
  obtain ⟨y, hy, hyb⟩ := inOwn_iff.mp hx
  exact nd.1 (by rw [show (⟨b, o⟩ : Blk).b = y.b from e.trans hyb.symm]; exact List.mem_map_of_mem hy)
 refine ⟨⟨m.ext.base, m.ext.lim, m.ext.n, fun x o' hx ho => ?_, fun w => ⟨fun x o' hx => ?_, m.wf.lim⟩⟩, ⟨fun x o' hx => ?_, m.wf.lim⟩, ⟨m.msk.base, m.msk.lim, m.msk.n, fun x hx => ?_, fun x hx => ?_, fun x hx => m.msk.lt x (by rw [io_cons, hx, Bool.or_true])⟩, fun e he => m.blk e (List.mem_cons_of_mem _ he), nd.2⟩
 ·
  have h1 := m.ext.get x o' hx ho
  rw [get_set, if_neg (by intro e; subst e; rw [hd] at h1; cases h1; exact ho rfl)]; exact h1
 ·
  rw [get_set] at hx
  split at hx
  ·
   rename_i q; subst q; exact hlt
  ·
   exact m.wf.lt x o' hx
 ·
  rw [get_set] at hx
  split at hx
  ·
   rename_i q; subst q; exact hlt
  ·
   exact m.wf.lt x o' hx
 ·
  rw [get_set, if_neg (nb x hx)]; exact m.msk.dead x (by rw [io_cons, hx, Bool.or_true])
 ·
  rw [get_set]
  split
  ·
   rename_i q; subst q; exact (m.blk _ List.mem_cons_self).1
  ·
   rename_i q; exact m.msk.get x (by rw [io_cons, hx, Trie.nb q]; rfl)
theorem split_at {α : Type} {l : List α} {i : Nat} {e : α} (hi : l[i]? = some e) : l.Perm (e :: l.eraseIdx i) ∧ ∀ e', (l.set i e').Perm (e' :: l.eraseIdx i) := by
 induction l generalizing i with
 | nil => simp at hi
 | cons x l ih =>
  cases i with
  | zero =>
   have : x = e := by simpa using hi
   subst this
   exact ⟨List.Perm.refl _, fun e' => List.Perm.refl _⟩
  | succ i =>
   obtain ⟨h1, h2⟩ := ih (i := i) (by simpa using hi)
   exact ⟨(h1.cons x).trans (List.Perm.swap _ _ _), fun e' => ((h2 e').cons x).trans (List.Perm.swap _ _ _)⟩
theorem at_ (m : Has own h0 h hf) {i : Nat} {e : Blk} (hi : own[i]? = some e) : h.get e.b = some e.o ∧ h.lim ≤ e.b := m.blk e (List.mem_of_getElem? hi)
theorem store (m : Has own h0 h hf) {i b : Nat} {o : O} (hi : own[i]? = some ⟨b, o⟩) (o' : O) :
 Has (own.set i ⟨b, o'⟩) h0 (h.set b o') hf :=
 ((m.perm (split_at hi).1).storeH o').perm ((split_at hi).2 _).symm
theorem kill (m : Has own h0 h hf) {i b : Nat} {o : O} (hi : own[i]? = some ⟨b, o⟩) : Has (own.eraseIdx i) h0 (h.set b .dead) hf := (m.perm (split_at hi).1).killH
theorem sub (m : Has own h0 h hf) {own' : List Blk} (s : own'.Sublist own) : ∃ hf', Has own' h0 h hf' := by
 have : ∃ r, own.Perm (r ++ own') := by
  obtain ⟨r, hr⟩ := s.exists_perm_append
  exact ⟨r, hr.trans List.perm_append_comm⟩
 obtain ⟨r, hr⟩ := this
 replace m := m.perm hr
 clear hr s
 induction r generalizing hf with
 | nil => exact ⟨hf, m⟩
 | cons e r ih => exact ih (pubH (own := r ++ own') (b := e.b) (o := e.o) m)
theorem keep (m : Has own h0 h hf) {h0' hf' h' : Heap} (k : Kept (inOwn own) h h') (mm : Msk (inOwn own) hf' h') (e : HExt h0' hf') (w : Wf hf') (hl : h'.lim = h.lim) : Has own h0' h' hf' :=
 ⟨e, w, mm, fun x hx => by
  have ho := m.blk x hx
  rw [k x.b (inOwn_iff.mpr ⟨x, hx, rfl⟩), hl]; exact ho, m.nd⟩
end Has
inductive It where
 | ops (r : Array Oper) (q : Bool) (os : List Oper)
 | sops (r : Array Oper) (sl : List (Nat × Nat)) (os : List (Nat × List Nat))
 | rck (r : Array Oper) (vs : List (Nat × Value))
 | code (c : Code)
 | endb (id : Nat)
 | endl (body : Code)
def Rcd (E : Env) (r : Array Oper) (vs : List (Nat × Value)) (fr : Fr) (h : Heap) : Prop :=
 ∀ p ∈ vs, ∃ o, r[p.1]? = some o ∧ (wantedV r fr o = true → readV E fr h o.op = some p.2)
open Classical in
noncomputable def stepIt (E : Env) (nt n : Nat) : It → Fr → Heap → Option (Ex × Fr × Heap)
 | .ops r q os, fr, h => match (bif q then runQuiet E nt (run E n) r os fr h else runOps E nt (run E n) r os fr h) with
  | some (fr', h') => some (.normal, fr', h')
  | none => none
 | .sops r sl os, fr, h => match runSched E nt (run E n) r sl os fr h with
  | some (fr', h') => some (.normal, fr', h')
  | none => none
 | .rck r vs, fr, h => if Rcd E r vs fr h then some (.normal, fr, h) else none
 | .code c, fr, h => evalC E nt (run E n) n c fr h
 | .endb _, fr, h => some (.normal, fr, h)
 | .endl body, fr, h => iter (fun fr h => evalC E nt (run E n) n body fr h) n fr h
noncomputable def exec (E : Env) (nt n : Nat) : List It → Ex → Fr → Heap → Option (Fr × Heap)
 | [], .exit _, _, _ => none
 | [], .normal, fr, h => some (fr, h)
 | [], .ret, fr, h => some (fr, h)
 | it :: st, .normal, fr, h => match stepIt E nt n it fr h with
  | some (x, fr', h') => exec E nt n st x fr' h'
  | none => none
 | _ :: st, .ret, fr, h => exec E nt n st .ret fr h
 | .endb id :: st, .exit i, fr, h => if i = id then exec E nt n st .normal fr h else exec E nt n st (.exit i) fr h
 | .ops _ _ _ :: st, .exit i, fr, h => exec E nt n st (.exit i) fr h
 | .sops _ _ _ :: st, .exit i, fr, h => exec E nt n st (.exit i) fr h
 | .rck _ _ :: st, .exit i, fr, h => exec E nt n st (.exit i) fr h
 | .code _ :: st, .exit i, fr, h => exec E nt n st (.exit i) fr h
 | .endl _ :: st, .exit i, fr, h => exec E nt n st (.exit i) fr h
theorem stepIt_le {E : Env} {nt n m : Nat} (hm : n ≤ m) {it : It} {fr : Fr} {h : Heap} {r : Ex × Fr × Heap} (e : stepIt E nt n it fr h = some r) : stepIt E nt m it fr h = some r := by
 cases it with
 | ops a q os =>
  unfold stepIt at e ⊢
  cases q with
  | true =>
   simp only [cond_true] at e ⊢
   split at e
   ·
    rename_i e1; rw [runQuiet_le (run_le hm) _ e1]; exact e
   ·
    cases e
  | false =>
   simp only [cond_false] at e ⊢
   split at e
   ·
    rename_i e1; rw [runOps_le (run_le hm) _ e1]; exact e
   ·
    cases e
 | sops a sl os =>
  simp only [stepIt] at e ⊢
  cases e1 : runSched E nt (run E n) a sl os fr h with
  | none => rw [e1] at e; cases e
  | some p => rw [runSched_le (run_le hm) _ e1]; rw [e1] at e; exact e
 | rck a vs => exact e
 | code c => exact evalC_le (run_le hm) hm c _ _ _ e
 | endb id => exact e
 | endl body => exact iter_le (fun _ _ _ q => evalC_le (run_le hm) hm body _ _ _ q) hm _ _ _ e
theorem exec_le {E : Env} {nt n m : Nat} (hm : n ≤ m) : ∀ (st : List It) {x : Ex} {fr : Fr} {h : Heap} {r : Fr × Heap}, exec E nt n st x fr h = some r → exec E nt m st x fr h = some r := by
 intro st
 induction st with
 | nil => intro x fr h r e; cases x <;> exact e
 | cons it st ih =>
  intro x fr h r e
  cases x with
  | normal =>
   unfold exec at e ⊢
   split at e
   ·
    rename_i e1; rw [stepIt_le hm e1]; exact ih e
   ·
    cases e
  | ret => cases it <;> exact ih e
  | exit i =>
   cases it with
   | endb id =>
    unfold exec at e ⊢
    split at e
    ·
     rename_i q; rw [if_pos q]; exact ih e
    ·
     rename_i q; rw [if_neg q]; exact ih e
   | ops a q os => exact ih e
   | sops a sl os => exact ih e
   | rck a vs => exact ih e
   | code c => exact ih e
   | endl b => exact ih e
theorem exec_ret (E : Env) (nt n : Nat) (fr : Fr) (h : Heap) : ∀ st : List It, exec E nt n st .ret fr h = some (fr, h) := by
 intro st
 induction st with
 | nil => rfl
 | cons it st ih => cases it <;> exact ih
structure Cx where
 E : Env
 nt : Nat
 res : List ResultVar
 Q : Value → Heap → Prop
def Dn (X : Cx) (st : List It) (fr : Fr) (h : Heap) : Prop :=
 ∃ n fr' h' vs, exec X.E X.nt n st .normal fr h = some (fr', h') ∧ resultsV X.E fr' h' X.res = some vs ∧ X.Q (packV vs) h'
def Goes (X : Cx) (st : List It) (l : L) (own : List Blk) (h0 : Heap) : Prop :=
 ∀ fr h hf, Agree l fr → Has own h0 h hf → Dn X st fr h
theorem Goes.weak {X : Cx} {st : List It} {l m : L} {own : List Blk} {h0 : Heap} (g : Goes X st m own h0) (s : Sub m l) : Goes X st l own h0 :=
 fun fr h hf a m => g fr h hf (s.agree a) m
theorem Has.back {own : List Blk} {h0 h1 h hf : Heap} (m : Has own h1 h hf) (e : HExt h0 h1) : Has own h0 h hf := ⟨e.trans m.ext, m.wf, m.msk, m.blk, m.nd⟩
section
variable {X : Cx} {st : List It} {l : L} {own : List Blk} {h0 : Heap}
theorem Dn.of_eq {st' : List It} {fr fr1 : Fr} {h h1 : Heap} (e : ∀ n, exec X.E X.nt n st .normal fr h = exec X.E X.nt n st' .normal fr1 h1) (d : Dn X st' fr1 h1) : Dn X st fr h := by
 obtain ⟨n, fr', h', vs, e1, e2, e3⟩ := d
 exact ⟨n, fr', h', vs, by rw [e]; exact e1, e2, e3⟩
theorem go_seq {a b : Code} (g : Goes X (.code a :: .code b :: st) l own h0) : Goes X (.code (.seq a b) :: st) l own h0 := by
 intro fr h hf ag hs
 refine Dn.of_eq (fun n => ?_) (g fr h hf ag hs)
 unfold exec
 show (match evalC X.E X.nt (run X.E n) n (.seq a b) fr h with | some (x, fr', h') => exec X.E X.nt n st x fr' h' | none => none) = (match evalC X.E X.nt (run X.E n) n a fr h with | some (x, fr', h') => exec X.E X.nt n (.code b :: st) x fr' h' | none => none)
 cases e : evalC X.E X.nt (run X.E n) n a fr h with
 | none => simp only [evalC, e]
 | some r =>
  obtain ⟨x, fr', h'⟩ := r
  cases x with
  | normal => simp only [evalC, e]; rfl
  | exit i => simp only [evalC, e]; rfl
  | ret => simp only [evalC, e]; rfl
theorem go_region {id : Nat} {ops : Array Oper} (g : Goes X (.ops ops false ops.toList :: st) l own h0) : Goes X (.code (.region id ops false) :: st) l own h0 := by
 intro fr h hf ag hs
 refine Dn.of_eq (fun n => ?_) (g fr h hf ag hs)
 simp only [exec, stepIt, evalC]
 rfl
theorem go_snil {r : Array Oper} {sl} (g : Goes X st l own h0) : Goes X (.sops r sl [] :: st) l own h0 := by
 intro fr h hf ag hs
 refine Dn.of_eq (fun n => ?_) (g fr h hf ag hs)
 simp only [exec, stepIt, runSched]
theorem go_sop {r : Array Oper} {sl} {i : Nat} {o : Oper} {L : List (Nat × List Nat)} (ho : r[i]? = some o) (ha : allocK o.op = false) (g : Goes X (.ops r false [o] :: .sops r sl L :: st) l own h0) : Goes X (.sops r sl ((i, []) :: L) :: st) l own h0 := by
 intro fr h hf ag hs
 refine Dn.of_eq (fun n => ?_) (g fr h hf ag hs)
 simp only [exec, stepIt, runSched, ho, opS_opV ha, chkR, cond_true, cond_false, runOps]
 cases wantedV r fr o with
 | true =>
  simp only [cond_true]
  cases opP X.E (run X.E n) fr h o.op with
  | none => rfl
  | some p =>
   obtain ⟨v, h'⟩ := p
   dsimp only
   cases fr.put X.nt o.dst v <;> rfl
 | false =>
  simp only [cond_false]
  cases fr.put X.nt o.dst undef <;> rfl
theorem go_nil {r : Array Oper} {q : Bool} (g : Goes X st l own h0) : Goes X (.ops r q [] :: st) l own h0 := by
 intro fr h hf ag hs
 refine Dn.of_eq (fun n => ?_) (g fr h hf ag hs)
 cases q <;> simp only [exec, stepIt, runOps, runQuiet, cond_true, cond_false]
theorem go_skip (g : Goes X st l own h0) : Goes X (.code .skip :: st) l own h0 := by
 intro fr h hf ag hs
 refine Dn.of_eq (fun n => ?_) (g fr h hf ag hs)
 simp only [exec, stepIt, evalC]
def OP (l : L) (g : Bool) (x : Operand) (v : Value) : Prop := ∀ fr, Agree l fr → g = true → ev fr x = some v
theorem ot {g : Bool} {t : Nat} {v : Value} (h : lk l t = some (true, v)) : OP l g (.tmp t) v := fun fr a _ => by
 simp only [ev, a.at h, cond_true]
theorem og {g g' : Bool} {t : Nat} {v : Value} (h : lk l t = some (g', v)) (hg : g = true → g' = true) : OP l g (.tmp t) v := fun fr a q => by
 simp only [ev, a.at h, hg q, cond_true]
theorem oc {g : Bool} {v : Value} (h : plainN 4 v = true) : OP l g (.const v) v := fun fr a _ => by
 simp only [ev, h, cond_true]
theorem of {g : Bool} {f : FuncId} : OP l g (.func f) (.func (.func f) #[] #[]) := fun fr a _ => rfl
def OPs (l : L) (g : Bool) (xs : List Operand) (vs : List Value) : Prop := ∀ fr, Agree l fr → g = true → evs fr xs = some vs
theorem os0 {g : Bool} : OPs l g [] [] := fun _ _ _ => rfl
theorem os1 {g : Bool} {x : Operand} {v : Value} {xs : List Operand} {vs : List Value} (h : OP l g x v) (k : OPs l g xs vs) : OPs l g (x :: xs) (v :: vs) := fun fr a q => by
 simp only [evs, h fr a q, k fr a q]
def OPp (l : L) (g : Bool) (xs : List (Nat × Operand)) (vs : List (Nat × Value)) : Prop := ∀ fr, Agree l fr → g = true → evParts fr xs = some vs
theorem op0 {g : Bool} : OPp l g [] [] := fun _ _ _ => rfl
theorem op1 {g : Bool} {i : Nat} {x : Operand} {v : Value} {xs : List (Nat × Operand)} {vs : List (Nat × Value)} (h : OP l g x v) (k : OPp l g xs vs) : OPp l g ((i, x) :: xs) ((i, v) :: vs) := fun fr a q => by
 simp only [evParts, h fr a q, k fr a q]
def RV (E : Env) (l : L) (own : List Blk) (h0 : Heap) (g : Bool) (op : Op) (v : Value) : Prop :=
 ∀ fr h hf, Agree l fr → Has own h0 h hf → g = true → readV E fr h op = some v
theorem step_read {r : Array Oper} {q : Bool} {o : Oper} {os : List Oper} {d : Nat} (hd : o.dst = some d) (hn : Nat.blt d X.nt = true) {g : Bool} {v : Value}
 (hw : ∀ fr, Agree l fr → wantedV r fr o = g) (hr : RV X.E l own h0 g o.op v) (k : Goes X (.ops r q os :: st) ((d, g, v) :: l) own h0) : Goes X (.ops r q (o :: os) :: st) l own h0 := by
 intro fr h hf ag hs
 refine Dn.of_eq (fun n => ?_) (k _ h hf (ag.set d g v) hs)
 simp only [exec, stepIt]
 cases q with
 | true =>
  simp only [cond_true, runQuiet, hw fr ag]
  cases g with
  | true => simp only [cond_true, quietV, hr fr h hf ag hs rfl, Fr.put, hd, hn]
  | false => simp only [cond_false, Fr.put, hd, hn, cond_true]
 | false =>
  simp only [cond_false, runOps, hw fr ag]
  cases g with
  | true => simp only [cond_true, opP, opV, hr fr h hf ag hs rfl, Fr.put, hd, hn]
  | false => simp only [cond_false, Fr.put, hd, hn, cond_true]
theorem gr {r : Array Oper} {q : Bool} {os : List Oper} {d : Nat} {op : Op} {ty : TypeId} {pos : String} {aft} (hn : Nat.blt d X.nt = true) {v : Value}
 (hr : RV X.E l own h0 true op v) (k : Goes X (.ops r q os :: st) ((d, true, v) :: l) own h0) : Goes X (.ops r q (⟨some d, op, ty, pos, aft, none⟩ :: os) :: st) l own h0 :=
 step_read rfl hn (fun fr _ => rfl) hr k
theorem wanted_t {r : Array Oper} {o oj : Oper} {j dj : Nat} {w : Bool} (hg : o.guard = some (j, w)) (hj : r[j]? = some oj) (hd : oj.dst = some dj) {g b : Bool} (hl : lk l dj = some (g, .bool b)) :
 ∀ fr, Agree l fr → wantedV r fr o = (g && (b == w)) := by
 intro fr a
 simp only [wantedV, hg, hj, hd, a.at hl]
 cases g
 ·
  rfl
 ·
  rfl
theorem grt {r : Array Oper} {q : Bool} {os : List Oper} {d j dj : Nat} {op : Op} {ty : TypeId} {pos : String} {aft} (hn : Nat.blt d X.nt = true) {oj : Oper} (hj : r[j]? = some oj) (hd : oj.dst = some dj)
 {b : Bool} (hl : lk l dj = some (true, .bool b)) {v : Value}
 (hr : RV X.E l own h0 b op v) (k : Goes X (.ops r q os :: st) ((d, b, v) :: l) own h0) : Goes X (.ops r q (⟨some d, op, ty, pos, aft, some (j, true)⟩ :: os) :: st) l own h0 :=
 step_read rfl hn (fun fr a => by rw [wanted_t rfl hj hd hl fr a]; cases b <;> rfl) hr k
end
end Go.Proofs.YtokfjifeofpkkaaGreat.V
namespace Go.Proofs.YtokfjifeofpkkaaGreat.V
open Go
set_option linter.unusedVariables false
set_option linter.unusedSimpArgs false
section
variable {E : Env} {l : L} {own : List Blk} {h0 : Heap} {g : Bool}
theorem r_move {x : Operand} {v : Value} (h : OP l g x v) : RV E l own h0 g (.move x) v := fun fr _ _ a _ q => h fr a q
theorem r_assign {x : Operand} {v : Value} (h : OP l g x v) : RV E l own h0 g (.assign x) v := fun fr _ _ a _ q => h fr a q
theorem r_pickb {c a e : Operand} {b y z : Bool} (hc : OP l g c (.bool b)) (ha : OP l (g && b) a (.bool y)) (he : OP l (g && !b) e (.bool z)) :
 RV E l own h0 g (.pick c a e) (.bool (bif b then y else z)) := by
 intro fr h hf ag _ q
 unfold readV; dsimp only
 rw [hc fr ag q]
 cases b
 ·
  exact he fr ag (by rw [q]; rfl)
 ·
  exact ha fr ag (by rw [q]; rfl)
theorem r_bin {op : BinOp} {t t' : TypeId} {x y : Operand} {a b v : Value} (hx : OP l g x a) (hy : OP l g y b) (h : binV E op t a b = some v) : RV E l own h0 g (.binOp op t x y t') v := by
 intro fr h' hf ag _ q
 unfold readV; dsimp only; rw [hx fr ag q, hy fr ag q]; exact h
theorem r_un {op : UnOp} {t : TypeId} {x : Operand} {a v : Value} (hx : OP l g x a) (h : unV op a = some v) : RV E l own h0 g (.unOp op t x) v := by
 intro fr h' hf ag _ q
 unfold readV; dsimp only; rw [hx fr ag q]; exact h
theorem r_conv {s t : TypeId} {x : Operand} {a v : Value} (hx : OP l g x a) (h : convV E s t a = some v) : RV E l own h0 g (.convert s t x) v := by
 intro fr h' hf ag _ q
 unfold readV; dsimp only; rw [hx fr ag q]; dsimp only; rw [h]
theorem r_fa {s : TypeId} {f : Nat} {x : Operand} {a v : Value} (hx : OP l g x a) (h : fieldAddrV E s a f = some v) : RV E l own h0 g (.fieldAddr s x f) v := by
 intro fr h' hf ag _ q
 unfold readV; dsimp only; rw [hx fr ag q]; exact h
theorem r_build {t : TypeId} {ps : Array (Nat × Operand)} {vs : List (Nat × Value)} {v : Value} (hx : OPp l g ps.toList vs) (h : buildV E t vs = some v) : RV E l own h0 g (.build t ps) v := by
 intro fr h' hf ag _ q
 unfold readV; dsimp only; rw [hx fr ag q]; exact h
theorem r_index {t : TypeId} {x i : Operand} {a b v : Value} (hx : OP l g x a) (hy : OP l g i b) (h : indexV E t a b = some v) : RV E l own h0 g (.index t x i) v := by
 intro fr h' hf ag _ q
 unfold readV; dsimp only; rw [hx fr ag q, hy fr ag q]; exact h
theorem r_len {xs : Array Operand} {ts : Array TypeId} {t : TypeId} {a v : Value} (ht : ts[0]? = some t) (hx : OPs l g xs.toList [a]) (h : ∀ hf, Kn h0 hf → lenV E hf t a = some v) :
 RV E l own h0 g (.call ⟨.builtin .len, xs, ts⟩) v := by
 intro fr h' hf ag hs q
 unfold readV; dsimp only; rw [hx fr ag q]; dsimp only; rw [ht]; exact hs.msk.lenV (h hf hs.ext.kn)
theorem r_max {xs : Array Operand} {ts : Array TypeId} {a v : Value} {vs : List Value} (hx : OPs l g xs.toList (a :: vs)) (h : foldV max2V a vs = some v) :
 RV E l own h0 g (.call ⟨.builtin .max, xs, ts⟩) v := by
 intro fr h' hf ag hs q
 unfold readV; dsimp only; rw [hx fr ag q]; exact h
def Lo (E : Env) (own : List Blk) (h0 : Heap) (t : TypeId) (a : Addr) (v : Value) : Prop := ∀ h hf, Has own h0 h hf → loadV E h t a = some v
theorem r_load {t : TypeId} {x : Operand} {a : Addr} {v : Value} (hx : OP l g x (.pointer (some a))) (h : Lo E own h0 t a v) : RV E l own h0 g (.load t x) v := by
 intro fr h' hf ag hs q
 unfold readV; dsimp only; rw [hx fr ag q]; exact h h' hf hs
theorem r_slice {t : TypeId} {x : Operand} {lo hi mx : Option Operand} {a : Value} {o1 o2 o3 : Option Value} {v : Value} (hx : OP l g x a)
 (h1 : ∀ fr, Agree l fr → g = true → evOpt fr lo = some o1) (h2 : ∀ fr, Agree l fr → g = true → evOpt fr hi = some o2) (h3 : ∀ fr, Agree l fr → g = true → evOpt fr mx = some o3)
 (h : ∀ hf, Kn h0 hf → sliceV E hf t a o1 o2 o3 = some v) : RV E l own h0 g (.slice t x lo hi mx) v := by
 intro fr h' hf ag hs q
 unfold readV; dsimp only; rw [hx fr ag q, h1 fr ag q, h2 fr ag q, h3 fr ag q]; exact hs.msk.sliceV (h hf hs.ext.kn)
theorem on {l : L} {g : Bool} : ∀ fr, Agree l fr → g = true → evOpt fr none = some none := fun _ _ _ => rfl
theorem oo {l : L} {g : Bool} {x : Operand} {v : Value} (h : OP l g x v) : ∀ fr, Agree l fr → g = true → evOpt fr (some x) = some (some v) := fun fr a q => by
 simp only [evOpt, h fr a q]
end
section
variable {X : Cx} {st : List It} {l : L} {own : List Blk} {h0 : Heap}
variable {r : Array Oper} {os : List Oper} {d : Nat} {ty : TypeId} {pos : String} {aft : Array Edge}
theorem step_op {o : Oper} (hg : o.guard = none) {fr fr' : Fr} {h h' : Heap} {v : Value} {n : Nat}
 (ho : opV X.E (run X.E n) fr h o.op = some (v, h')) (hp : fr.put X.nt o.dst v = some fr') (k : Dn X (.ops r false os :: st) fr' h') : Dn X (.ops r false (o :: os) :: st) fr h := by
 obtain ⟨m, fr2, h2, vs, e1, e2, e3⟩ := k
 refine ⟨max n m, fr2, h2, vs, ?_, e2, e3⟩
 have e1' := exec_le (Nat.le_max_right n m) _ e1
 have ho' := opP_of_opV (opV_le (run_le (Nat.le_max_left n m)) ho)
 have hw : wantedV r fr o = true := by unfold wantedV; rw [hg]
 have : stepIt X.E X.nt (max n m) (.ops r false (o :: os)) fr h = stepIt X.E X.nt (max n m) (.ops r false os) fr' h' := by
  simp only [stepIt, cond_false, runOps, hw, cond_true, ho', hp]
 unfold exec at e1' ⊢
 rw [this]; exact e1'
theorem put_some {nt d : Nat} (hn : Nat.blt d nt = true) (fr : Fr) (v : Value) : Fr.put nt fr (some d) v = some (fr.set d v) := by simp only [Fr.put, hn, cond_true]
theorem g_alloc {t : TypeId} {z : Value} {cs : List Value} (hn : Nat.blt d X.nt = true) (hz : zeroOf X.E.P t = some z) (hc : z.cells.toList = cs)
 (k : ∀ b, Goes X (.ops r false os :: st) ((d, true, .pointer (some ⟨b, 0, none⟩)) :: l) (⟨b, .cells cs t⟩ :: own) h0) :
 Goes X (.ops r false (⟨some d, .alloc t, ty, pos, aft, none⟩ :: os) :: st) l own h0 := by
 intro fr h hf ag hs
 have ho : opV X.E (run X.E 0) fr h (.alloc t) = some (ptrTo h.n, h.alloc (.cells z.cells.toList t)) := by
  simp only [opV, readV, writeV, hz]
 refine step_op rfl ho (put_some hn _ _) ?_
 rw [hc]
 exact k h.n _ _ _ (ag.set d true _) (hs.alloc (.cells cs t))
theorem g_box {t : TypeId} {x : Operand} {v : Value} {cs : List Value} (hn : Nat.blt d X.nt = true) (hx : OP l true x v) (hc : v.cells.toList = cs)
 (k : ∀ b, Goes X (.ops r false os :: st) ((d, true, .pointer (some ⟨b, 0, none⟩)) :: l) (⟨b, .cells cs t⟩ :: own) h0) :
 Goes X (.ops r false (⟨some d, .box t x, ty, pos, aft, none⟩ :: os) :: st) l own h0 := by
 intro fr h hf ag hs
 have ho : opV X.E (run X.E 0) fr h (.box t x) = some (ptrTo h.n, h.alloc (.cells v.cells.toList t)) := by
  simp only [opV, readV, writeV, hx fr ag rfl]
 refine step_op rfl ho (put_some hn _ _) ?_
 rw [hc]
 exact k h.n _ _ _ (ag.set d true _) (hs.alloc (.cells cs t))
theorem g_store (i : Nat) {t T : TypeId} {a x : Operand} {b off k : Nat} {v : Value} {cs vs : List Value} (ha : OP l true a (.pointer (some ⟨b, off, none⟩))) (hx : OP l true x v)
 (hi : own[i]? = some ⟨b, .cells cs T⟩) (hz : sz X.E.P t = some k) (hv : Nat.beq v.cells.size k = true) (hc : v.cells.toList = vs) (hl : Nat.ble (off + vs.length) cs.length = true) (hk : vs.all cellOk = true)
 {own' : List Blk} (ho' : own.set i ⟨b, .cells (splice cs off vs) T⟩ = own') (kk : Goes X (.ops r false os :: st) l own' h0) :
 Goes X (.ops r false (⟨none, .store t a x, ty, pos, aft, none⟩ :: os) :: st) l own h0 := by
 intro fr h hf ag hs
 obtain ⟨hb, hlim⟩ := hs.at_ hi
 have hlim' : Nat.ble h.lim b = true := Nat.ble_eq_true_of_le hlim
 have ho : opV X.E (run X.E 0) fr h (.store t a x) = some (undef, h.set b (.cells (splice cs off vs) T)) := by
  simp only [opV, readV, writeV, ha fr ag rfl, hx fr ag rfl, storeV, hz, hv, hc, cond_true, storeCells, hb, hlim', hl, hk, Bool.and_self]
 refine step_op rfl ho (show Fr.put X.nt fr none undef = some fr from rfl) ?_
 subst ho'
 exact kk _ _ _ ag (hs.store hi _)
theorem step_callp {q : Bool} {o : Oper} {g : Bool} {f : Operand} {xs : Array Operand} {ts : Array TypeId} {gf : FuncId} {fi ca : Array Value} {vs : List Value} {v : Value}
 (hF : FramedE X.E) (hd : o.dst = some d) (hn : Nat.blt d X.nt = true) (hw : ∀ fr, Agree l fr → wantedV r fr o = g) (hop : o.op = .call ⟨.value f, xs, ts⟩)
 (hf' : OP l g f (.func (.func gf) fi ca)) (hx : OPs l g xs.toList vs) (hb : hasBody X.E.P gf = true) (hp : q = true → plainN 4 v = true)
 (hs : ∀ hf, Kn h0 hf → Wf hf → g = true → Ev X.E gf (fi.toList ++ (vs ++ ca.toList)) hf (fun w _ => w = v))
 (kk : Goes X (.ops r q os :: st) ((d, g, v) :: l) own h0) : Goes X (.ops r q (o :: os) :: st) l own h0 := by
 intro fr h hf ag hs'
 cases g with
 | false =>
  refine Dn.of_eq (fun n => ?_) (kk _ h hf (ag.set d false v) hs')
  simp only [exec, stepIt]
  cases q with
  | true => simp only [cond_true, runQuiet, hw fr ag, cond_false, Fr.put, hd, hn]
  | false => simp only [cond_false, runOps, hw fr ag, Fr.put, hd, hn, cond_true]
 | true =>
  cases q with
  | false =>
   obtain ⟨n, v', hf1, hr, he, hq⟩ := hs hf hs'.ext.kn hs'.wf rfl
   subst hq
   obtain ⟨h1, hr1, m1, k1⟩ := run_msk hF n (inOwn own) hf h gf _ v' hf1 hs'.msk hr
   have hw1 := he.wf hs'.wf
   have ho : opV X.E (run X.E n) fr h o.op = some (v', h1) := by
    rw [hop]
    simp only [opV, readV, writeV, calleeV, hf' fr ag rfl, hx fr ag rfl, hb, cond_true]
    exact hr1
   have hl : h1.lim = h.lim := by rw [m1.lim, he.lim, hs'.msk.lim]
   obtain ⟨m, fr2, h2, rs, e1, e2, e3⟩ := kk _ _ _ (ag.set d true v') (hs'.keep k1 m1 (hs'.ext.trans he) hw1 hl)
   refine ⟨max n m, fr2, h2, rs, ?_, e2, e3⟩
   have e1' := exec_le (Nat.le_max_right n m) _ e1
   have ho' := opP_of_opV (opV_le (run_le (Nat.le_max_left n m)) ho)
   have : stepIt X.E X.nt (max n m) (.ops r false (o :: os)) fr h = stepIt X.E X.nt (max n m) (.ops r false os) (fr.set d v') h1 := by
    simp only [stepIt, cond_false, runOps, hw fr ag, cond_true, ho', hd, put_some hn]
   unfold exec at e1' ⊢
   rw [this]; exact e1'
  | true =>
   obtain ⟨n, v', hf1, hr, he, hq⟩ := hs { hf with lim := hf.n } (hs'.ext.kn.limN _) hs'.wf.limN rfl
   subst hq
   obtain ⟨h1, hr1, m1, k1⟩ := run_msk hF n (inOwn own) { hf with lim := hf.n } { h with lim := h.n } gf _ v' hf1 hs'.msk.limN hr
   have ho : quietV X.E (run X.E n) fr h o.op = some v' := by
    rw [hop]
    simp only [quietV, readV, calleeV, hf' fr ag rfl, hx fr ag rfl, hb, cond_true, hr1, hp rfl]
   obtain ⟨m, fr2, h2, rs, e1, e2, e3⟩ := kk _ _ _ (ag.set d true v') hs'
   refine ⟨max n m, fr2, h2, rs, ?_, e2, e3⟩
   have e1' := exec_le (Nat.le_max_right n m) _ e1
   have ho' := quietV_le (run_le (Nat.le_max_left n m)) ho
   have : stepIt X.E X.nt (max n m) (.ops r true (o :: os)) fr h = stepIt X.E X.nt (max n m) (.ops r true os) (fr.set d v') h := by
    simp only [stepIt, cond_true, runQuiet, hw fr ag, ho', hd, put_some hn]
   unfold exec at e1' ⊢
   rw [this]; exact e1'
theorem g_callp {q : Bool} {f : Operand} {xs : Array Operand} {ts : Array TypeId} {gf : FuncId} {fi ca : Array Value} {vs : List Value} {v : Value}
 (hF : FramedE X.E) (hn : Nat.blt d X.nt = true) (hf' : OP l true f (.func (.func gf) fi ca)) (hx : OPs l true xs.toList vs) (hb : hasBody X.E.P gf = true) (hp : q = true → plainN 4 v = true)
 (hs : ∀ hf, Kn h0 hf → Wf hf → Ev X.E gf (fi.toList ++ (vs ++ ca.toList)) hf (fun w _ => w = v))
 (kk : Goes X (.ops r q os :: st) ((d, true, v) :: l) own h0) : Goes X (.ops r q (⟨some d, .call ⟨.value f, xs, ts⟩, ty, pos, aft, none⟩ :: os) :: st) l own h0 :=
 step_callp hF rfl hn (fun fr _ => rfl) rfl hf' hx hb hp (fun hf k w _ => hs hf k w) kk
def RS (X : Cx) (l : L) (own : List Blk) (h0 : Heap) (rs : List ResultVar) (vs : List Value) : Prop := ∀ fr h hf, Agree l fr → Has own h0 h hf → resultsV X.E fr h rs = some vs
theorem rs0 : RS X l own h0 [] [] := fun _ _ _ _ _ => rfl
theorem rst {t : Nat} {v : Value} {rs : List ResultVar} {vs : List Value} (h : lk l t = some (true, v)) (k : RS X l own h0 rs vs) : RS X l own h0 (.tmp t :: rs) (v :: vs) := fun fr h' hf a hs => by
 simp only [resultsV, resultV, a.at h, cond_true, k fr h' hf a hs]
theorem rsc {a t : Nat} {p : Addr} {v : Value} {rs : List ResultVar} {vs : List Value} (h : lk l a = some (true, .pointer (some p))) (hv : Lo X.E own h0 t p v) (k : RS X l own h0 rs vs) : RS X l own h0 (.cell a t :: rs) (v :: vs) := fun fr h' hf ag hs => by
 simp only [resultsV, resultV, ag.at h, cond_true, hv h' hf hs, k fr h' hf ag hs]
theorem g_ret {vs : List Value} (h : RS X l own h0 X.res vs) (hq : ∀ h1 hf, Has own h0 h1 hf → X.Q (packV vs) h1) : Goes X (.code .ret :: st) l own h0 := by
 intro fr h1 hf ag hs
 refine ⟨0, fr, h1, vs, ?_, h fr h1 hf ag hs, hq h1 hf hs⟩
 unfold exec
 show exec X.E X.nt 0 st .ret fr h1 = _
 exact exec_ret _ _ _ _ _ _
theorem g_cond {c : Operand} {a e : Code} {b : Bool} (hc : OP l true c (.bool b)) (ht : b = true → Goes X (.code a :: st) l own h0) (hf : b = false → Goes X (.code e :: st) l own h0) :
 Goes X (.code (.cond c a e) :: st) l own h0 := by
 intro fr h hf' ag hs
 cases b with
 | true =>
  refine Dn.of_eq (fun n => ?_) (ht rfl fr h hf' ag hs)
  simp only [exec, stepIt, evalC, hc fr ag rfl]
 | false =>
  refine Dn.of_eq (fun n => ?_) (hf rfl fr h hf' ag hs)
  simp only [exec, stepIt, evalC, hc fr ag rfl]
end
def initL : List Value → Nat → L → L
 | [], _, l => l
 | v :: r, i, l => initL r (i + 1) ((i, true, v) :: l)
theorem initL_agree : ∀ (vs : List Value) (i : Nat) (l : L) (fr : Fr), Agree l fr → Agree (initL vs i l) (initF vs i fr) := by
 intro vs
 induction vs with
 | nil => intro i l fr a; exact a
 | cons v r ih => intro i l fr a; exact ih (i + 1) _ _ (a.set i true v)
theorem ev_of {E : Env} {f : FuncId} {args : List Value} {h : Heap} {Q : Value → Heap → Prop} (hw : Wf h) {fn : Func} {c : Code} (hp : E.prim f = none) (hf : E.P.funcs[f]? = some fn) (hc : fn.body = some c) (hn : Nat.ble args.length fn.ntmps = true)
 (g : Goes ⟨E, fn.ntmps, fn.results.toList, fun v h' => HExt h h' ∧ Q v h'⟩ [.code c] (initL args 0 []) [] h) : Ev E f args h Q := by
 obtain ⟨n, fr', h', vs, e1, e2, e3⟩ := g (initF args 0 .nil) h h (initL_agree _ _ _ _ (Agree.nil _)) (Has.nil hw)
 refine ⟨n + 1, packV vs, h', ?_, e3⟩
 rw [run_step hp hf hc, hn, cond_true]
 unfold exec at e1
 split at e1
 ·
  rename_i x fr1 h1 e
  have e' : evalC E fn.ntmps (run E n) n c (initF args 0 .nil) h = some (x, fr1, h1) := e
  rw [e']
  cases x with
  | exit i => cases e1
  | normal => cases e1; dsimp only; rw [e2]
  | ret => cases e1; dsimp only; rw [e2]
 ·
  cases e1
end Go.Proofs.YtokfjifeofpkkaaGreat.V
namespace Go.Proofs.YtokfjifeofpkkaaGreat.V
open Go
set_option linter.unusedVariables false
set_option linter.unusedSimpArgs false
def flagA (a : Addr) : Addr := match a.spot with
 | none => ⟨a.block, a.off, some 1⟩
 | some s => ⟨a.block, a.off, some (s + 3)⟩
def flagS : Value → Value
 | .slice (some a) l c => .slice (some (flagA a)) l c
 | .pointer (some a) => .pointer (some (flagA a))
 | v => v
def okC : Value → Bool
 | .bool _ | .int _ _ | .string _ | .slice _ _ _ | .pointer _ => true
 | _ => false
theorem flagA_ok (β : Inj) (a : Addr) : AR β (flagA a) a := by
 obtain ⟨b, o, s⟩ := a
 cases s with
 | none => exact .base
 | some s => exact .odd
theorem flagS_ok {v : Value} (h : okC v = true) (β : Inj) : VR β (flagS v) v := by
 cases v with
 | bool b => exact .bool b
 | int k n => exact .int k n
 | string s => exact .string s
 | slice a l c =>
  cases a with
  | none => exact .sliceNil l c
  | some a => exact .slice (flagA_ok β a) l c
 | pointer a =>
  cases a with
  | none => exact .ptrNil
  | some a => exact .ptr (flagA_ok β a)
 | _ => cases h
theorem flagS_oks {l : List Value} (h : l.all okC = true) (β : Inj) : VRs β (l.map flagS) l := by
 induction l with
 | nil => exact .nil
 | cons v l ih =>
  rw [List.all_cons, Bool.and_eq_true] at h
  exact .cons (flagS_ok h.1 β) (ih h.2)
def baseOf (W : World) (b o : Nat) : Option Value := match W.cell? ⟨b, o, none⟩ with
 | some v => bif okC v then some (flagS v) else none
 | none => none
def heap0 (W : World) : Heap := ⟨baseOf W, 0, 0, .nil⟩
theorem heap0_get (W : World) (b : Nat) : (heap0 W).get b = none := rfl
theorem heap0_wf (W : World) : Wf (heap0 W) := ⟨fun b o h => (by rw [heap0_get] at h; cases h), Nat.le_refl 0⟩
theorem sim0 (P : Program) (W : World) : Sim P (fun k => W.heap.size ≤ k) (fun _ => none) (heap0 W) W where
 base := by
  intro b o v h
  have h' : baseOf W b o = some v := h
  unfold baseOf at h'
  split at h'
  ·
   rename_i v' hc
   cases e : okC v' with
   | false => rw [e] at h'; cases h'
   | true =>
    rw [e] at h'
    cases h'
    exact ⟨fun hle => absurd (cell_lt hc) (Nat.not_lt.mpr hle), v', hc, flagS_ok e⟩
  ·
   cases h'
 dom := fun b x h => by cases h
 tdom := fun b o h => by cases h
 live := fun b c T h => by cases h
 liveM := fun b es c h => by cases h
 liveI := fun b r s h => by cases h
 inj := fun b1 b2 x1 x2 _ _ h => by cases h
 wr := fun b x _ _ h => by cases h
 fresh := fun k h => h
 img := fun b x h => by cases h
def SLv (h : Heap) (k : Nat) (v : Value) (rows : List (List Value)) : Prop := ∃ a cap, v = .slice a rows.length cap ∧ SL h k a rows
theorem SLv.ext {h h' : Heap} (e : Kn h h') {k : Nat} {v : Value} {rows : List (List Value)} (s : SLv h k v rows) : SLv h' k v rows := by
 obtain ⟨a, cap, h1, h2⟩ := s
 exact ⟨a, cap, h1, h2.ext e⟩
theorem SLv.nil (h : Heap) (k cap : Nat) (a : Option Addr) : SLv h k (.slice a 0 cap) [] := ⟨a, cap, rfl, fun i r hr => by simp at hr⟩
section
variable {H : Type} {enc : TypeId × Value → H} {P : Program} {W : World} {spare : Nat → Bool} {held : Bool}
end
end Go.Proofs.YtokfjifeofpkkaaGreat.V
namespace Go.Proofs.YtokfjifeofpkkaaGreat.V
open Go
set_option linter.unusedVariables false
set_option linter.unusedSimpArgs false
def ckType (P : Program) (t : TypeId) : CK → Bool
 | .int k => match P.underlying t with | some (.int k') => k' == k | _ => false
 | .str => match P.underlying t with | some .string => true | _ => false
 | .bool => match P.underlying t with | some .bool => true | _ => false
def flatFs (P : Program) : List Field → List CK → Nat → Bool
 | [], [], _ => true
 | f :: fs, k :: ks, i => !(f.name == "_") && Nat.beq f.offset i && ckType P f.type k && Nat.beq (P.cellsOf f.type) 1 && flatFs P fs ks (i + 1)
 | _, _, _ => false
theorem part_scalar {P : Program} {t : TypeId} {k : CK} (h : ckType P t k = true) {xs : Array Value} {i : Nat} {v : Value} (hv : xs[i]? = some v) (w : World) : (part t xs i).run P w = .ok v w := by
 unfold ckType at h
 cases k with
 | int k =>
  dsimp only at h; split at h
  ·
   rename_i hu; simp [part, isAgg, underlying, hu, hv]
  ·
   cases h
 | str =>
  dsimp only at h; split at h
  ·
   rename_i hu; simp [part, isAgg, underlying, hu, hv]
  ·
   cases h
 | bool =>
  dsimp only at h; split at h
  ·
   rename_i hu; simp [part, isAgg, underlying, hu, hv]
  ·
   cases h
theorem equal_scalar {P : Program} {t : TypeId} {k : CK} (h : ckType P t k = true) {x y : Value} {b : Bool} (hv : ckEq k x y = some b) (d : Nat) (w : World) : (Op.equalIn (d + 1) t x y).run P w = .ok b w := by
 unfold ckType at h
 cases k with
 | int k =>
  dsimp only at h; split at h
  ·
   rename_i hu
   cases x <;> cases y <;> simp only [ckEq] at hv <;> try (cases hv; done)
   split at hv
   ·
    rename_i q
    obtain ⟨q1, q2⟩ := q
    subst q1 q2
    cases hv
    simp [Op.equalIn, underlying, hu]
   ·
    cases hv
  ·
   cases h
 | str =>
  dsimp only at h; split at h
  ·
   rename_i hu
   cases x <;> cases y <;> simp only [ckEq] at hv <;> try (cases hv; done)
   cases hv
   simp [Op.equalIn, underlying, hu]
  ·
   cases h
 | bool =>
  dsimp only at h; split at h
  ·
   rename_i hu
   cases x <;> cases y <;> simp only [ckEq] at hv <;> try (cases hv; done)
   cases hv
   simp [Op.equalIn, underlying, hu]
  ·
   cases h
theorem fields_flat {P : Program} {d : Nat} {xs ys : Array Value} {w : World} : ∀ (fs : List Field) (ks : List CK) (i : Nat) (b : Bool), flatFs P fs ks i = true → ckAll ks (xs.toList.drop i) (ys.toList.drop i) = some b →
 (Op.eqFields (d + 1) xs ys fs).run P w = .ok b w := by
 intro fs
 induction fs with
 | nil =>
  intro ks i b hf hc
  cases ks with
  | nil =>
   cases e1 : xs.toList.drop i with
   | nil =>
    cases e2 : ys.toList.drop i with
    | nil => rw [e1, e2] at hc; cases hc; simp [Op.eqFields]
    | cons _ _ => rw [e1, e2] at hc; cases hc
   | cons _ _ => rw [e1] at hc; cases hc
  | cons _ _ => cases hf
 | cons f fs ih =>
  intro ks i b hf hc
  cases ks with
  | nil => cases hf
  | cons k ks =>
   simp only [flatFs, Bool.and_eq_true] at hf
   obtain ⟨⟨⟨⟨hn, ho⟩, hk⟩, hz⟩, hr⟩ := hf
   have ho := Nat.eq_of_beq_eq_true ho
   subst ho
   cases e1 : xs.toList.drop f.offset with
   | nil => rw [e1] at hc; cases hc
   | cons x xr =>
    cases e2 : ys.toList.drop f.offset with
    | nil => rw [e1, e2] at hc; cases hc
    | cons y yr =>
     rw [e1, e2] at hc
     simp only [ckAll] at hc
     split at hc
     ·
      rename_i c hc1
      split at hc
      ·
       rename_i r hr1
       cases hc
       have hx : xs[f.offset]? = some x := by
        rw [← Array.getElem?_toList, ← List.head?_drop, e1]; rfl
       have hy : ys[f.offset]? = some y := by
        rw [← Array.getElem?_toList, ← List.head?_drop, e2]; rfl
       have t1 : xs.toList.drop (f.offset + 1) = xr := by rw [← List.tail_drop, e1]; rfl
       have t2 : ys.toList.drop (f.offset + 1) = yr := by rw [← List.tail_drop, e2]; rfl
       have hr2 := ih ks (f.offset + 1) r hr (by rw [t1, t2]; exact hr1)
       have hn' : f.name ≠ "_" := by simpa using hn
       simp only [Op.eqFields, if_pos hn', Sem.run_bind, part_scalar hk hx w, part_scalar hk hy w, equal_scalar hk hc1 d w, Result.andThen_ok]
       cases c
       ·
        simp
       ·
        simpa using hr2
      ·
       cases hc
     ·
      cases hc
def flatFs2 (P : Program) : List Field → List CK → Nat → Bool
 | [], [], _ => true
 | [], _ :: _, _ => false
 | f :: fs, ks, i => !(f.name == "_") && Nat.beq f.offset i && (match P.underlying f.type with
  | some (.struct gs) => flatFs P gs.toList (ks.take (P.cellsOf f.type)) 0 && !P.stoodInHeld f.type && (P.info? f.type).isSome && flatFs2 P fs (ks.drop (P.cellsOf f.type)) (i + P.cellsOf f.type)
  | _ => match ks with
   | k :: ks => ckType P f.type k && flatFs2 P fs ks (i + 1)
   | [] => false)
def flatT (P : Program) (t : TypeId) (ks : List CK) : Bool :=
 match P.underlying t with
 | some (.struct fs) => flatFs2 P fs.toList ks 0 && !P.stoodInHeld t && !P.eqGuardType P.depth t
 | _ => false
theorem ckAll_split : ∀ (ks : List CK) (c : Nat) (xs ys : List Value) (b : Bool), ckAll ks xs ys = some b → ∃ b1 b2, ckAll (ks.take c) (xs.take c) (ys.take c) = some b1 ∧ ckAll (ks.drop c) (xs.drop c) (ys.drop c) = some b2 ∧ b = (b1 && b2) := by
 intro ks
 induction ks with
 | nil =>
  intro c xs ys b h
  cases xs with
  | nil => cases ys with
   | nil => cases h; exact ⟨true, true, by simp [ckAll], by simp [ckAll], rfl⟩
   | cons _ _ => cases h
  | cons _ _ => cases h
 | cons k ks ih =>
  intro c xs ys b h
  cases xs with
  | nil => cases h
  | cons x xs => cases ys with
   | nil => cases h
   | cons y ys =>
    cases c with
    | zero => exact ⟨true, b, by simp [ckAll], by simpa using h, by simp⟩
    | succ c =>
     simp only [ckAll] at h
     split at h
     ·
      rename_i q hq
      split at h
      ·
       rename_i r hr
       cases h
       obtain ⟨b1, b2, h1, h2, h3⟩ := ih c xs ys r hr
       exact ⟨q && b1, b2, by simp only [List.take_succ_cons, ckAll, hq, h1], by simpa using h2, by rw [h3, Bool.and_assoc]⟩
      ·
       cases h
     ·
      cases h
theorem part_struct {P : Program} {t : TypeId} {gs : Array Field} (hu : P.underlying t = some (.struct gs)) (hi : (P.info? t).isSome = true) (xs : Array Value) (i : Nat) (w : World) :
 (part t xs i).run P w = .ok (.agg (xs.extract i (i + P.cellsOf t))) w := by
 obtain ⟨inf, hinf⟩ := Option.isSome_iff_exists.mp hi
 have hs : sz P t = some inf.size := by unfold sz; rw [hinf]
 have hr : ∀ w, (sizeOf t).run P w = .ok (P.cellsOf t) w := fun w => by rw [sz_cells hs]; exact r_size hs
 simp only [part, isAgg, Sem.run_bind, r_underlying hu, Result.andThen_ok, Sem.run_pure, if_true, hr]
theorem fields_flat2 {P : Program} {d : Nat} {w : World} : ∀ (fs : List Field) (ks : List CK) (i : Nat) (xs ys : Array Value) (b : Bool), flatFs2 P fs ks i = true → ckAll ks (xs.toList.drop i) (ys.toList.drop i) = some b →
 (Op.eqFields (d + 2) xs ys fs).run P w = .ok b w := by
 intro fs
 induction fs with
 | nil =>
  intro ks i xs ys b hf hc
  cases ks with
  | nil =>
   cases e1 : xs.toList.drop i with
   | nil =>
    cases e2 : ys.toList.drop i with
    | nil => rw [e1, e2] at hc; cases hc; simp [Op.eqFields]
    | cons _ _ => rw [e1, e2] at hc; cases hc
   | cons _ _ => rw [e1] at hc; cases hc
  | cons _ _ => cases hf
 | cons f fs ih =>
  intro ks i xs ys b hf hc
  unfold flatFs2 at hf
  rw [Bool.and_eq_true, Bool.and_eq_true] at hf
  obtain ⟨⟨hn, ho⟩, hf⟩ := hf
  have ho := Nat.eq_of_beq_eq_true ho
  subst ho
  have hn' : f.name ≠ "_" := by simpa using hn
  have fin : ∀ (A B : Value) (c r : Bool), (part f.type xs f.offset).run P w = .ok A w → (part f.type ys f.offset).run P w = .ok B w → (Op.equalIn (d + 2) f.type A B).run P w = .ok c w → (Op.eqFields (d + 2) xs ys fs).run P w = .ok r w → (Op.eqFields (d + 2) xs ys (f :: fs)).run P w = .ok (c && r) w := by
   intro A B c r h1 h2 h3 h4
   simp only [Op.eqFields, if_pos hn', Sem.run_bind, h1, h2, h3, Result.andThen_ok]
   cases c
   ·
    simp
   ·
    simpa using h4
  split at hf
  ·
   rename_i gs hu
   rw [Bool.and_eq_true, Bool.and_eq_true, Bool.and_eq_true] at hf
   obtain ⟨⟨⟨g1, g2⟩, g3⟩, g4⟩ := hf
   obtain ⟨b1, b2, s1, s2, rfl⟩ := ckAll_split ks (P.cellsOf f.type) _ _ _ hc
   rw [List.drop_drop, List.drop_drop] at s2
   have hfo : P.fieldsOf f.type = gs := by simp [Program.fieldsOf, hu]
   have hin := fields_flat (P := P) (d := d) (w := w) (xs := xs.extract f.offset (f.offset + P.cellsOf f.type)) (ys := ys.extract f.offset (f.offset + P.cellsOf f.type)) gs.toList (ks.take (P.cellsOf f.type)) 0 b1 g1 (by
    rw [List.drop_zero, List.drop_zero, Array.toList_extract, Array.toList_extract, List.extract_eq_take_drop, List.extract_eq_take_drop, Nat.add_sub_cancel_left]; exact s1)
   refine fin _ _ b1 b2 (part_struct hu g3 xs _ w) (part_struct hu g3 ys _ w) ?_ (ih _ _ xs ys b2 g4 s2)
   rw [show d + 2 = (d + 1) + 1 from rfl, run_equalIn_struct (P := P) w (d + 1) f.type _ _ (by rw [hfo]; exact hu) (by simpa using g2), hfo]
   exact hin
  ·
   cases ks with
   | nil => cases hf
   | cons k ks =>
    dsimp only at hf
    rw [Bool.and_eq_true] at hf
    cases e1 : xs.toList.drop f.offset with
    | nil => rw [e1] at hc; cases hc
    | cons x xr =>
     cases e2 : ys.toList.drop f.offset with
     | nil => rw [e1, e2] at hc; cases hc
     | cons y yr =>
      rw [e1, e2] at hc
      simp only [ckAll] at hc
      split at hc
      ·
       rename_i c hc1
       split at hc
       ·
        rename_i r hr1
        cases hc
        have hx : xs[f.offset]? = some x := by
         rw [← Array.getElem?_toList, ← List.head?_drop, e1]; rfl
        have hy : ys[f.offset]? = some y := by
         rw [← Array.getElem?_toList, ← List.head?_drop, e2]; rfl
        have t1 : xs.toList.drop (f.offset + 1) = xr := by rw [← List.tail_drop, e1]; rfl
        have t2 : ys.toList.drop (f.offset + 1) = yr := by rw [← List.tail_drop, e2]; rfl
        exact fin _ _ c r (part_scalar hf.1 hx w) (part_scalar hf.1 hy w) (equal_scalar hf.1 hc1 (d + 1) w) (ih _ _ xs ys r hf.2 (by rw [t1, t2]; exact hr1))
       ·
        cases hc
      ·
       cases hc
theorem eqOK_of {E : Env} (h : ∀ t ks, E.eqT t = some ks → flatT E.P t ks = true) : EqOK E := by
 intro t ks ht x y b X Y hc w
 have hf := h t ks ht
 unfold flatT at hf
 split at hf
 ·
  rename_i fs hu
  simp only [Bool.and_eq_true, Bool.not_eq_true'] at hf
  obtain ⟨⟨h1, h2⟩, h3⟩ := hf
  have e := fields_flat2 (P := E.P) (d := 9997) (w := w) fs.toList ks 0 x y b h1 (by simpa using hc)
  have hfo : E.P.fieldsOf t = fs := by simp [Program.fieldsOf, hu]
  refine ⟨?_, ?_, ?_⟩
  ·
   simp [eqGuard, h3]
  ·
   simp [eqGuard, h3]
  ·
   show (Op.equalIn (9999 + 1) t (.agg x) (.agg y)).run E.P w = _
   rw [run_equalIn_struct (P := E.P) w 9999 t x y (by rw [hfo]; exact hu) h2, hfo]
   exact e
 ·
  cases hf
def heapE : Heap := ⟨fun _ _ => none, 0, 0, .nil⟩
theorem simE (P : Program) (w : World) : Sim P (fun k => w.heap.size ≤ k) (fun _ => none) heapE w where
 base := fun b o v h => by cases h
 dom := fun b x h => by cases h
 tdom := fun b o h => by cases h
 live := fun b c T h => by cases h
 liveM := fun b es c h => by cases h
 liveI := fun b r s h => by cases h
 inj := fun b1 b2 x1 x2 _ _ h => by cases h
 wr := fun b x _ _ h => by cases h
 fresh := fun k h => h
 img := fun b x h => by cases h
def known (v : Value) (args : List Value) (h : Heap) : Option (Value × Heap) := match args with | [] => some (v, h) | _ => none
theorem known_ok {E : Env} (hE : SideOK E) {g : FuncId} {v : Value} (hp : plainN 4 v = true) {n : Nat} (hr : (match run E n g [] heapE with | some (u, _) => u = v | none => False)) :
 ∀ args hp v' hp', known v args hp = some (v', hp') → ∀ Wr β w (args' : Array Value), Sim E.P Wr β hp w → VRs β args args'.toList → Calls E.P g args' w (Out E.P Wr β hp hp' v' w) := by
 intro args h v' h' hk Wr β w args' S ha
 unfold known at hk
 split at hk
 ·
  cases hk
  have : args' = #[] := by
   cases args' with
   | mk l => cases l with
    | nil => rfl
    | cons _ _ => cases ha
  subst this
  split at hr
  ·
   rename_i u h2 hrun
   subst hr
   refine (run_ok hE n g [] _ _ _ hrun _ _ w #[] (simE E.P w) .nil).mono ?_
   rintro e w' ⟨v2, β', rfl, _, _, hv, hf, _⟩
   have := plain_eq 4 hp hv
   subst this
   have ex : Ext w w' := ⟨hf.os, hf.tape, hf.output, hf.size, fun k hk => hf.block k (Nat.not_le.mpr hk)⟩
   refine ⟨_, β, rfl, Up.refl _ β, S.ext ex, VR.plain 4 _ hp, ⟨ex.os, ex.tape, ex.output, ex.size, fun k hk => ex.block k ?_⟩, Lm.refl _⟩
   rcases Nat.lt_or_ge k w.heap.size with q | q
   ·
    exact q
   ·
    exact absurd (S.fresh k q) hk
  ·
   cases hr
 ·
  cases hk
theorem known_framed (v : Value) : Framed (fun _ => known v) := by
 intro S f h g args v' f' m hc
 cases args with
 | nil => cases hc; exact ⟨h, rfl, m, Kept.refl _ _⟩
 | cons _ _ => cases hc
theorem never_framed : Framed (fun _ _ _ => none) := fun S f h g args v' f' m hc => by cases hc
end Go.Proofs.YtokfjifeofpkkaaGreat.V
namespace Go.Proofs.YtokfjifeofpkkaaGreat.V
open Go
set_option linter.unusedVariables false
set_option linter.unusedSimpArgs false
def lexAt (P : Program) (g : Nat) : Bool := match P.funcs[g]? with
 | some fn => match fn.body with | some c => lexOK P c | none => true
 | none => true
def nameAt (P : Program) (g : Nat) : Bool := match P.funcs[g]? with
 | some fn => bif fn.body.isSome then !(fn.name == "runtime.NumGoroutine") else true
 | none => true
def assoc {α : Type} : List (Nat × α) → Nat → Option α
 | [], _ => none
 | (k, a) :: r, t => bif Nat.beq k t then some a else assoc r t
theorem assoc_mem {α : Type} : ∀ {l : List (Nat × α)} {t : Nat} {a : α}, assoc l t = some a → (t, a) ∈ l := by
 intro l
 induction l with
 | nil => intro t a h; cases h
 | cons p r ih =>
  intro t a h
  obtain ⟨k, b⟩ := p
  unfold assoc at h
  cases e : Nat.beq k t with
  | true =>
   rw [e] at h
   cases h
   rw [Nat.eq_of_beq_eq_true e]
   exact List.mem_cons_self
  | false => rw [e] at h; exact List.mem_cons_of_mem _ (ih h)
theorem methRow_ok {P : Program} {t : TypeId} {name : String} {g : FuncId} (h : methRow P t name = some g) (v : Value) (w : World) : (Go.method (P.types.size + Made.depth) t v name).run P w = .ok (g, v) w := by
 unfold methRow at h
 split at h
 ·
  cases h
 ·
  rename_i i hi
  split at h
  ·
   cases h
  ·
   rename_i m hm
   obtain ⟨hp, h⟩ := bif_some h
   split at h
   ·
    rename_i f pr hf
    have hpath : m.path.toList = [] := by simpa using hp
    have e : P.types.size + Made.depth = (P.types.size + 99) + 1 := rfl
    rw [e]
    unfold Go.method
    simp only [Sem.run_bind, r_info hi, Result.andThen_ok, hm, hpath, follow, Sem.run_pure, hf]
    split at h
    ·
     rename_i el hu; cases h
     simp only [receiverAt, Sem.run_bind, r_underlying hu, Result.andThen_ok, Place.get, Sem.run_pure]
    ·
     cases h
    ·
     rename_i d hne hu; cases h
     simp only [receiverAt, Sem.run_bind, r_underlying hu, Result.andThen_ok]
     cases d <;> first | (exact (hne _ rfl).elim) | simp only [Place.get, Sem.run_pure, Sem.run_bind, Result.andThen_ok]
    ·
     cases h
   ·
    cases h
def env1N (P : Program) (eqs : List (Nat × List CK)) (bad : List Nat) : Env := ⟨P, assoc eqs, fun g => bif bad.any (Nat.beq g) then some (fun _ _ => none) else none, methRow P⟩
theorem env1N_framed (P : Program) (eqs : List (Nat × List CK)) (bad : List Nat) : FramedE (env1N P eqs bad) := by
 intro g p hp
 have hp' : (bif bad.any (Nat.beq g) then some (fun _ _ => none) else none) = some p := hp
 cases e : bad.any (Nat.beq g) with
 | true => rw [e] at hp'; cases hp'; exact never_framed
 | false => rw [e] at hp'; cases hp'
theorem env1N_ok {P : Program} {eqs : List (Nat × List CK)} {bad : List Nat} {n : Nat} (hn : P.funcs.size = n) (h1 : eqs.all (fun p => flatT P p.1 p.2) = true) (h2 : (List.range n).all (nameAt P) = true) (h3 : P.follows .mixedOrders = true) (h4 : (List.range n).all (fun g => bad.any (Nat.beq g) || lexAt P g) = true) :
 SideOK (env1N P eqs bad) where
 eq := eqOK_of (fun t ks h => List.all_eq_true.mp h1 _ (assoc_mem h))
 name := by
  intro g fn hg0 hb
  have hg : P.funcs[g]? = some fn := hg0
  have hlt : g < n := by
   rw [← hn]
   rcases Nat.lt_or_ge g P.funcs.size with q | q
   ·
    exact q
   ·
    have := Array.getElem?_eq_none (xs := P.funcs) q; rw [this] at hg; cases hg
  have := List.all_eq_true.mp h2 g (List.mem_range.mpr hlt)
  unfold nameAt at this
  have hg' : P.funcs[g]? = some fn := hg
  rw [hg'] at this
  dsimp only at this
  rw [hb] at this
  simpa using this
 mixed := h3
 framed := env1N_framed P eqs bad
 lex := by
  intro g fn c hg0 hb hp
  have hg : P.funcs[g]? = some fn := hg0
  have hlt : g < n := by
   rw [← hn]
   rcases Nat.lt_or_ge g P.funcs.size with q | q
   ·
    exact q
   ·
    have := Array.getElem?_eq_none (xs := P.funcs) q; rw [this] at hg; cases hg
  have hp' : (bif bad.any (Nat.beq g) then some (fun (_ : List Value) (_ : Heap) => (none : Option (Value × Heap))) else none) = none := hp
  have this := List.all_eq_true.mp h4 g (List.mem_range.mpr hlt)
  cases e : bad.any (Nat.beq g) with
  | true => rw [e] at hp'; cases hp'
  | false =>
   rw [e, Bool.false_or] at this
   unfold lexAt at this
   have hg' : P.funcs[g]? = some fn := hg
   rw [hg'] at this
   dsimp only at this
   rw [hb] at this
   exact this
 meth := fun t name g h v w => methRow_ok h v w
 prim := by
  intro g p hp
  have hp' : (bif bad.any (Nat.beq g) then some (fun _ _ => none) else none) = some p := hp
  cases e : bad.any (Nat.beq g) with
  | true => rw [e] at hp'; cases hp'; intro args hp v hp2 h; cases h
  | false => rw [e] at hp'; cases hp'
def envK (E : Env) (ks : List (Nat × Value)) : Env := { E with prim := fun g => match assoc ks g with | some v => some (known v) | none => E.prim g }
theorem envK_framed {E : Env} (hE : FramedE E) (ks : List (Nat × Value)) : FramedE (envK E ks) := by
 intro g p hp
 have hp' : (match assoc ks g with | some v => some (known v) | none => E.prim g) = some p := hp
 split at hp'
 ·
  cases hp'; exact known_framed _
 ·
  exact hE g p hp'
theorem envK_ok {E : Env} (hE : SideOK E) {ks : List (Nat × Value)} (h : ∀ p ∈ ks, plainN 4 p.2 = true ∧ ∃ n, (match run E n p.1 [] heapE with | some (u, _) => u = p.2 | none => False)) : SideOK (envK E ks) where
 eq := hE.eq
 name := hE.name
 mixed := hE.mixed
 framed := envK_framed hE.framed ks
 lex := by
  intro g fn c hg hb hp
  refine hE.lex g fn c hg hb ?_
  have hp' : (match assoc ks g with | some v => some (known v) | none => E.prim g) = none := hp
  split at hp'
  ·
   cases hp'
  ·
   exact hp'
 meth := hE.meth
 prim := by
  intro g p hp
  have hp' : (match assoc ks g with | some v => some (known v) | none => E.prim g) = some p := hp
  split at hp'
  ·
   rename_i v hv
   cases hp'
   obtain ⟨h1, n, h2⟩ := h _ (assoc_mem hv)
   exact known_ok hE h1 h2
  ·
   exact hE.prim g p hp'
end Go.Proofs.YtokfjifeofpkkaaGreat.V
