/- THE CLEAN MACHINE IS RIGHT: what it says of a call, the model's call does.
   Conditions: of the program: SideOK (each one closed fact by the kernel); of the functions that are told instead of run: PrimOK. -/
import Derived.Test.YtadfhabapgipbaaVe
namespace Go.Proofs.Ytadfhabapgipbaa.V
open Go
set_option linter.unusedVariables false
set_option linter.unusedSimpArgs false

theorem write_ok {E : Env} {Wr : Nat → Prop} {β : Inj} {hp hp' : Heap} {w : World} (S : Sim E.P Wr β hp w) {nt : Nat} {fr : Fr} {a : Act} (F : FR β nt fr a) {o : Oper} {v : Value} (h : writeV E fr hp o.op = some (v, hp')) :
    ∃ β' w' v', Up hp.n β β' ∧ Sim E.P Wr β' hp' w' ∧ VR β' v v' ∧ FrameW Wr w w' ∧ Lm hp hp' ∧ ((execOp a.eval o).run E.P w = .ok (.value v') w' ∨ (v' = undef ∧ (execOp a.eval o).run E.P w = .ok .skip w')) := by
  have val : ∀ {s : Sem Value}, (execOp a.eval o = do pure (.value (← s))) → WOut E.P Wr β hp w hp' v s →
      ∃ β' w' v', Up hp.n β β' ∧ Sim E.P Wr β' hp' w' ∧ VR β' v v' ∧ FrameW Wr w w' ∧ Lm hp hp' ∧ ((execOp a.eval o).run E.P w = .ok (.value v') w' ∨ (v' = undef ∧ (execOp a.eval o).run E.P w = .ok .skip w')) := by
    rintro s he ⟨β', w', v', h1, h2, h3, h4, h5, h6⟩
    exact ⟨β', w', v', h1, h2, h3, h4, h5, .inl (by rw [he]; exact ex_v h6)⟩
  obtain ⟨dst, op, type, pos, after, guard⟩ := o
  simp only at h
  cases op <;> simp only [writeV] at h <;> try (cases h; done)
  case alloc t =>
    split at h
    · rename_i z hz; cases h; exact val rfl (alloc_ok S hz)
    · cases h
  case box t x =>
    split at h
    · rename_i u hu; cases h; exact val rfl (box_ok S (ev_ok F hu))
    · cases h
  case buildSlice t len parts =>
    split at h
    · rename_i elem p hu hp2
      split at h
      · rename_i k z hk hz
        obtain ⟨hq, h⟩ := bif_some h
        rw [Bool.and_eq_true] at hq
        split at h
        · rename_i c hc
          cases h
          have hpp := evParts_ok F hp2
          have hpp' : PRs β p (parts.map fun (x : Nat × Operand) => (x.1, a.eval x.2)).toList := by rw [Array.toList_map]; exact hpp
          have hb := buildSlice_ok S hu hk hz (Nat.le_of_ble_eq_true hq.1) (Nat.eq_of_beq_eq_true hq.2) hpp' hc
          exact val (s := Instr.buildSlice t len (parts.map fun (x : Nat × Operand) => (x.1, a.eval x.2))) rfl hb
        · cases h
      · cases h
    · cases h
  case makeMap t r =>
    obtain ⟨β', w', h1, h2, h3, h4, h5⟩ := makeMap_ok S
    unfold mkMapV at h
    split at h
    · cases h
      refine ⟨β', w', _, h1, h3, .map h2, h4, Lm.alloc _ _, .inl ?_⟩
      simp only [execOp, Option.map_none, Instr.makeMap, Sem.run_bind, Sem.run_pure, Result.andThen_ok, h5]
    · split at h
      · rename_i key elem hu
        cases h
        refine ⟨β', w', _, h1, h3, .map h2, h4, Lm.alloc _ _, .inl ?_⟩
        simp only [execOp, Option.map_some, Act.eval, Instr.makeMap, Sem.run_bind, r_underlying hu, asInt, asIntOf, Sem.run_pure, Result.andThen_ok, h5]
      · cases h
    · cases h
  case makeSlice t l c =>
    split at h
    · rename_i elem l1 c1 hu hl hc
      split at h
      · rename_i k b z hk hb hz
        obtain ⟨hq, h⟩ := bif_some h
        rw [Bool.and_eq_true] at hq
        cases h
        obtain ⟨x', e1, e2⟩ := ev_ok' F hl
        obtain ⟨y', e3, e4⟩ := ev_ok' F hc
        cases e2; cases e4
        refine val (s := Instr.makeSlice t (.int .i64 l1) (.int .i64 c1)) ?_ (makeSlice_ok S hu hk hb hz (Nat.eq_of_beq_eq_true hq.2) (of_decide_eq_true hq.1))
        simp only [execOp, e1, e3]
      · cases h
    · cases h
  case store t x y =>
    split at h
    · rename_i u1 u2 h1 h2
      split at h
      · rename_i h' hs
        cases h
        obtain ⟨w', g1, g2, g3, g4⟩ := storeV_ok S (ev_ok F h1) (ev_ok F h2) hs
        refine ⟨β, w', undef, Up.refl _ β, g2, VR.undef β, g3, g4, .inr ⟨rfl, ?_⟩⟩
        simp only [execOp, Sem.run_bind, g1, Result.andThen_ok, Sem.run_pure]
      · cases h
    · cases h
  case mapUpdate t m k x =>
    split at h
    · rename_i u1 u2 u3 h1 h2 h3
      split at h
      · rename_i h' hs
        cases h
        obtain ⟨w', g1, g2, g3, g4⟩ := updateV_ok S (ev_ok F h1) (ev_ok F h2) (ev_ok F h3) hs
        refine ⟨β, w', undef, Up.refl _ β, g2, VR.undef β, g3, g4, .inr ⟨rfl, ?_⟩⟩
        simp only [execOp, Sem.run_bind, g1, Result.andThen_ok, Sem.run_pure]
      · cases h
    · cases h
  case insert t m k x =>
    split at h
    · rename_i u1 u2 u3 h1 h2 h3
      split at h
      · rename_i h' hs
        cases h
        obtain ⟨w', g1, g2, g3, g4⟩ := updateV_ok S (ev_ok F h1) (ev_ok F h2) (ev_ok F h3) hs
        refine ⟨β, w', undef, Up.refl _ β, g2, VR.undef β, g3, g4, .inr ⟨rfl, ?_⟩⟩
        simp only [execOp, Sem.run_bind, g1, Result.andThen_ok, Sem.run_pure]
      · cases h
    · cases h
  case call c =>
    split at h
    · rename_i hc
      split at h
      · rename_i x y hx
        obtain ⟨x', y', e1, e2, e3⟩ := list2 (evs_ok F hx)
        refine val (s := Builtin.append_ c.argTypes type #[x', y']) ?_ (appendV_ok S e2 e3 h)
        simp only [execOp, resolve, hc, args_eq e1, pure_bind, invoke, builtin]
      · cases h
    · rename_i hc
      split at h
      · rename_i x y hx
        obtain ⟨x', y', e1, e2, e3⟩ := list2 (evs_ok F hx)
        refine val (s := Builtin.copy_ c.argTypes type #[x', y']) ?_ (copyV_ok S e2 e3 h)
        simp only [execOp, resolve, hc, args_eq e1, pure_bind, invoke, builtin]
      · cases h
    · rename_i hc
      split at h
      · rename_i x hx
        obtain ⟨x', e1, e2⟩ := list1 (evs_ok F hx)
        refine val (s := Builtin.clear_ c.argTypes type #[x']) ?_ (clearV_ok S e2 h)
        simp only [execOp, resolve, hc, args_eq e1, pure_bind, invoke, builtin]
      · cases h
    · rename_i hc
      split at h
      · rename_i x y hx
        obtain ⟨x', y', e1, e2, e3⟩ := list2 (evs_ok F hx)
        refine val (s := Builtin.delete_ c.argTypes type #[x', y']) ?_ (deleteV_ok S e2 e3 h)
        simp only [execOp, resolve, hc, args_eq e1, pure_bind, invoke, builtin]
      · cases h
    · cases h

/-! ### Calls -/
/-- What a call leaves. -/
def Out (P : Program) (Wr : Nat → Prop) (β : Inj) (hp hp' : Heap) (v : Value) (w : World) (e : Ending) (w' : World) : Prop :=
  ∃ v' β', e = .returned v' ∧ Up hp.n β β' ∧ Sim P Wr β' hp' w' ∧ VR β' v v' ∧ FrameW Wr w w' ∧ Lm hp hp'

def CallOK (P : Program) (call : FuncId → List Value → Heap → Option (Value × Heap)) : Prop :=
  ∀ g args hp v hp', call g args hp = some (v, hp') → ∀ Wr β w (args' : Array Value), Sim P Wr β hp w → VRs β args args'.toList → Calls P g args' w (Out P Wr β hp hp' v w)

def lexOK (P : Program) : Code → Bool
  | .region _ ops draw => !draw || (bif quietR P ops then Region.lexB .any ops else schedOK ops)
  | .seq a b => lexOK P a && lexOK P b
  | .cond _ a b => lexOK P a && lexOK P b
  | .block _ b => lexOK P b
  | .loop b => lexOK P b
  | .scope b => lexOK P b
  | _ => true

structure SideOK (E : Env) : Prop where
  eq : EqOK E
  name : ∀ (g : Nat) (fn : Func), E.P.funcs[g]? = some fn → fn.body.isSome = true → (fn.name == "runtime.NumGoroutine") = false
  mixed : E.P.follows .mixedOrders = true
  framed : FramedE E
  lex : ∀ (g : Nat) (fn : Func) (c : Code), E.P.funcs[g]? = some fn → fn.body = some c → E.prim g = none → lexOK E.P c = true
  meth : ∀ t name g, E.meth t name = some g → ∀ v w, (Go.method (E.P.types.size + Made.depth) t v name).run E.P w = .ok (g, v) w
  prim : ∀ g p, E.prim g = some p → ∀ args hp v hp', p args hp = some (v, hp') → ∀ Wr β w (args' : Array Value), Sim E.P Wr β hp w → VRs β args args'.toList → Calls E.P g args' w (Out E.P Wr β hp hp' v w)

theorem callFunc_ok {E : Env} (hE : SideOK E) {g : FuncId} (h : hasBody E.P g = true) (args : Array Value) (w : World) : (callFunc g args).run E.P w = .ok (.enter g args) w := by
  unfold hasBody at h
  split at h
  · rename_i fn hf
    split at h
    · rename_i c hc
      have hn := hE.name g fn hf (by rw [hc]; rfl)
      have hb : fn.body.isNone = false := by rw [hc]; rfl
      simp only [callFunc, Sem.run_bind, run_program, Result.andThen_ok, hf, hn, hb, Bool.false_eq_true, if_false, Sem.run_pure]
    · cases h
  · cases h

theorem callee_ok {E : Env} (hE : SideOK E) {β : Inj} {nt : Nat} {fr : Fr} {a : Act} (F : FR β nt fr a) {o : Oper} {g : FuncId} {args : List Value} (h : calleeV E fr o.op = some (g, args)) :
    ∃ args' : Array Value, VRs β args args'.toList ∧ ∀ w, (execOp a.eval o).run E.P w = .ok (.enter g args') w := by
  obtain ⟨dst, op, type, pos, after, guard⟩ := o
  simp only at h
  cases op <;> simp only [calleeV] at h <;> try (cases h; done)
  case call c =>
    split at h
    · rename_i f hc
      split at h
      · rename_i g0 first cap hf
        split at h
        · rename_i as has
          obtain ⟨hb, h⟩ := bif_some h
          cases h
          obtain ⟨x', e1, e2⟩ := ev_ok' F hf
          cases e2 with | @func _ _ f' _ c' h1 h2 => ?_
          refine ⟨f' ++ c.args.map a.eval ++ c', ?_, fun w => ?_⟩
          · have := h1.append ((evs_ok F has).append h2)
            simpa using this
          · simp only [execOp, resolve, hc, e1, Deferred.ofValue, pure_bind, invoke, callFunc_ok hE hb]
        · cases h
      · cases h
    · rename_i r name hc
      split at h
      · rename_i t v hr
        split at h
        · rename_i g0 hg
          split at h
          · rename_i as has
            obtain ⟨hb, h⟩ := bif_some h
            cases h
            obtain ⟨x', e1, e2⟩ := ev_ok' F hr
            cases e2 with | @iface _ _ v' hv => ?_
            refine ⟨#[v'] ++ c.args.map a.eval, ?_, fun w => ?_⟩
            · have := VRs.cons hv (evs_ok F has)
              simpa using this
            · have hm := hE.meth t name g hg v' w
              have e3 : (#[Value.iface t v'] ++ c.args.map a.eval)[0]? = some (.iface t v') := by rw [Array.getElem?_append_left (by simp)]; rfl
              have e4 : (#[Value.iface t v'] ++ c.args.map a.eval).extract 1 (#[Value.iface t v'] ++ c.args.map a.eval).size = c.args.map a.eval := by
                apply Array.ext'; simp; exact List.take_of_length_le (by simp)
              simp only [execOp, resolve, hc, e1, pure_bind, invoke, e3, e4, callMethod, Sem.run_bind, run_program, Result.andThen_ok, hm, callFunc_ok hE hb]
          · cases h
        · cases h
      · cases h
    · cases h

end Go.Proofs.Ytadfhabapgipbaa.V
