/- Every reading operation of the clean machine does what the model's does.
   Conditions: it yields a value, and heap and frame stand as V2 says; of struct types that are compared: EqOK. -/
import Derived.Test.YtadfhabapgipbaaV7
namespace Go.Proofs.Ytadfhabapgipbaa.V
open Go
set_option linter.unusedVariables false
set_option linter.unusedSimpArgs false

theorem ex_v {P : Program} {s : Sem Value} {v' : Value} {w w' : World} (h : s.run P w = .ok v' w') : (do pure (.value (← s)) : Sem Next).run P w = .ok (.value v') w' := by
  simp only [Sem.run_bind, h, Result.andThen_ok]; rfl

theorem bool_of {β : Inj} {v : Value} {b : Bool} (h : VR β (.bool b) v) : v = .bool b := by cases h; rfl

theorem ev_ok' {β : Inj} {nt : Nat} {fr : Fr} {a : Act} (F : FR β nt fr a) {x : Operand} {v : Value} (hx : ev fr x = some v) : ∃ x', a.eval x = x' ∧ VR β v x' := ⟨_, rfl, ev_ok F hx⟩

theorem list1 {β : Inj} {x : Value} {l : List Value} (h : VRs β [x] l) : ∃ x', l = [x'] ∧ VR β x x' := by
  cases h with | cons h r => cases r; exact ⟨_, rfl, h⟩
theorem list2 {β : Inj} {x y : Value} {l : List Value} (h : VRs β [x, y] l) : ∃ x' y', l = [x', y'] ∧ VR β x x' ∧ VR β y y' := by
  cases h with | cons h r => cases r with | cons h' r' => cases r'; exact ⟨_, _, rfl, h, h'⟩

theorem args_eq {c : Call} {ρ : Operand → Value} {l : List Value} (h : c.args.toList.map ρ = l) : c.args.map ρ = l.toArray := by
  rw [← Array.toList_inj]; simpa using h

theorem read_ok {E : Env} (hE : EqOK E) {Wr : Nat → Prop} {β : Inj} {hp : Heap} {w : World} (S : Sim E.P Wr β hp w) {nt : Nat} {fr : Fr} {a : Act} (F : FR β nt fr a) {o : Oper} {v : Value} (h : readV E fr hp o.op = some v) :
    ∃ v', VR β v v' ∧ ∀ w', Ext w w' → (execOp a.eval o).run E.P w' = .ok (.value v') w' := by
  obtain ⟨dst, op, type, pos, after, guard⟩ := o
  simp only at h
  cases op <;> simp only [readV] at h <;> try (cases h; done)
  case move x => exact ⟨_, ev_ok F h, fun w' _ => rfl⟩
  case assign x => exact ⟨_, ev_ok F h, fun w' _ => rfl⟩
  case pick c x y =>
    split at h
    · rename_i hc
      have := bool_of (ev_ok F hc)
      exact ⟨_, ev_ok F h, fun w' _ => by simp [execOp, this, asBool]⟩
    · rename_i hc
      have := bool_of (ev_ok F hc)
      exact ⟨_, ev_ok F h, fun w' _ => by simp [execOp, this, asBool]⟩
    · cases h
  case load t x =>
    split at h
    · rename_i p hx
      obtain ⟨x', hx', hv⟩ := ev_ok' F hx
      cases hv with | @ptr _ p' hA => ?_
      obtain ⟨v', h1, h2⟩ := loadV_ok S hA h
      refine ⟨v', h1, fun w' he => ?_⟩
      simp only [execOp, hx']
      exact ex_v (by simp [Instr.loadAt, Instr.sureAddr, h2 w' he])
    · cases h
  case nilCheck x =>
    split at h
    all_goals try (cases h; done)
    all_goals (
      rename_i hx
      obtain ⟨x', hx', hv⟩ := ev_ok' F hx
      cases h
      refine ⟨x', hv, fun w' _ => ?_⟩
      cases hv <;> simp [execOp, hx'])
  case binOp op t x y yt =>
    split at h
    · rename_i u u2 hx hy
      obtain ⟨h1, h2⟩ := binV_ok hE (ev_ok F hx) (ev_ok F hy) h x y
      exact ⟨v, h1, fun w' _ => ex_v (h2 w')⟩
    · cases h
  case unOp op t x =>
    split at h
    · rename_i u hx
      obtain ⟨h1, h2⟩ := unV_ok (P := E.P) (ev_ok F hx) h
      exact ⟨v, h1, fun w' _ => ex_v (h2 w')⟩
    · cases h
  case convert src d x =>
    split at h
    · rename_i u hx
      obtain ⟨h1, h2⟩ := convV_ok (ev_ok F hx) h
      exact ⟨v, h1, fun w' _ => ex_v (h2 w')⟩
    · cases h
  case makeInterface t x =>
    obtain ⟨hn, h⟩ := bif_some h
    obtain ⟨d, hu, hd⟩ := notIface_eq hn
    split at h
    · rename_i u hx
      cases h
      refine ⟨_, .iface t (ev_ok F hx), fun w' _ => ex_v ?_⟩
      simp only [Instr.makeInterface, Sem.run_bind, r_underlying hu, Result.andThen_ok]
      cases d <;> first | rfl | exact (hd _ rfl).elim
    · cases h
  case makeFunc fn first cap =>
    obtain ⟨hn, h⟩ := bif_some h
    split at h
    · rename_i u1 u2 h1 h2
      cases h
      refine ⟨.func fn (first.map a.eval) (cap.map a.eval), .func fn ?_ ?_, fun w' _ => rfl⟩
      · simpa using evs_ok F h1
      · simpa using evs_ok F h2
    · cases h
  case slice t x lo hi mx =>
    split at h
    · rename_i x1 l1 h1 m1 e1 e2 e3 e4
      obtain ⟨v', g1, g2⟩ := sliceV_ok S (ev_ok F e1) (evOpt_ok F e2) (evOpt_ok F e3) (evOpt_ok F e4) h
      exact ⟨v', g1, fun w' _ => ex_v (g2 w')⟩
    · cases h
  case fieldAddr s x f =>
    split at h
    · rename_i u hx
      obtain ⟨v', h1, h2⟩ := fieldAddrV_ok (ev_ok F hx) h
      exact ⟨v', h1, fun w' _ => ex_v (h2 w')⟩
    · cases h
  case field s x f =>
    split at h
    · rename_i u hx
      obtain ⟨v', h1, h2⟩ := fieldV_ok (ev_ok F hx) h
      exact ⟨v', h1, fun w' _ => ex_v (h2 w')⟩
    · cases h
  case indexAddr t x i =>
    split at h
    · rename_i u u2 hx hy
      obtain ⟨v', h1, h2⟩ := indexAddrV_ok (ev_ok F hx) (ev_ok F hy) h
      exact ⟨v', h1, fun w' _ => ex_v (h2 w')⟩
    · cases h
  case index t x i =>
    split at h
    · rename_i u u2 hx hy
      obtain ⟨v', h1, h2⟩ := indexV_ok (ev_ok F hx) (ev_ok F hy) h
      exact ⟨v', h1, fun w' _ => ex_v (h2 w')⟩
    · cases h
  case lookup t m k ok =>
    split at h
    · rename_i u u2 hx hy
      obtain ⟨v', h1, h2⟩ := lookupV_ok S (ev_ok F hx) (ev_ok F hy) h
      exact ⟨v', h1, fun w' he => ex_v (h2 w' he)⟩
    · cases h
  case typeAssert x xt t ok =>
    split at h
    · rename_i u hx
      obtain ⟨v', h1, h2⟩ := assertV_ok (xT := xt) (ev_ok F hx) h
      exact ⟨v', h1, fun w' _ => ex_v (h2 w')⟩
    · cases h
  case extract x i =>
    split at h
    · rename_i vs hx
      obtain ⟨x', hx', hv⟩ := ev_ok' F hx
      cases hv with | @tuple _ vs' hvs => ?_
      obtain ⟨v', h1, h2⟩ := hvs.get i (by simpa using h)
      refine ⟨v', h2, fun w' _ => ?_⟩
      simp only [execOp, hx']
      refine ex_v ?_
      have : vs'[i]? = some v' := by rw [← Array.getElem?_toList]; exact h1
      simp [Instr.extract, this]
    · cases h
  case build t parts =>
    split at h
    · rename_i p hpt
      have hp' := evParts_ok F hpt
      obtain ⟨v', h1, h2⟩ := buildV_ok (parts' := parts.map fun (i, x) => (i, a.eval x)) (by simpa using hp') h
      exact ⟨v', h1, fun w' _ => ex_v (h2 w')⟩
    · cases h
  case call c =>
    split at h
    · rename_i hc
      split at h
      · rename_i x hx
        split at h
        · rename_i t ht
          obtain ⟨x', e1, e2⟩ := list1 (evs_ok F hx)
          obtain ⟨h1, h2⟩ := lenV_ok S (T := type) ht e2 h
          refine ⟨v, h1, fun w' he => ?_⟩
          simp only [execOp, resolve, hc, args_eq e1, Sem.run_bind, Sem.run_pure, Result.andThen_ok, invoke, builtin, h2 w' he]
        · cases h
      · cases h
    · rename_i hc
      split at h
      · rename_i x hx
        split at h
        · rename_i t ht
          obtain ⟨x', e1, e2⟩ := list1 (evs_ok F hx)
          obtain ⟨h1, h2⟩ := capV_ok (T := type) ht e2 h
          refine ⟨v, h1, fun w' he => ?_⟩
          simp only [execOp, resolve, hc, args_eq e1, Sem.run_bind, Sem.run_pure, Result.andThen_ok, invoke, builtin, h2 w']
        · cases h
      · cases h
    · rename_i hc
      split at h
      · rename_i x r hx
        have := evs_ok F hx
        generalize hl : c.args.toList.map a.eval = l at this
        cases this with | @cons _ x' _ r' e1 e2 => ?_
        obtain ⟨v', h1, h2⟩ := fold_ok (P := E.P) (fun _ _ _ _ _ a b c => max2_ok a b c) _ _ _ _ _ e2 e1 h
        refine ⟨v', h1, fun w' he => ?_⟩
        simp only [execOp, resolve, hc, args_eq hl, Sem.run_bind, Sem.run_pure, Result.andThen_ok, invoke, builtin, Builtin.max_, h2 w']
      · cases h
    · rename_i hc
      split at h
      · rename_i x r hx
        have := evs_ok F hx
        generalize hl : c.args.toList.map a.eval = l at this
        cases this with | @cons _ x' _ r' e1 e2 => ?_
        obtain ⟨v', h1, h2⟩ := fold_ok (P := E.P) (fun _ _ _ _ _ a b c => min2_ok a b c) _ _ _ _ _ e2 e1 h
        refine ⟨v', h1, fun w' he => ?_⟩
        simp only [execOp, resolve, hc, args_eq hl, Sem.run_bind, Sem.run_pure, Result.andThen_ok, invoke, builtin, Builtin.min_, h2 w']
      · cases h
    · cases h

end Go.Proofs.Ytadfhabapgipbaa.V
