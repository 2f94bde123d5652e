/- A long run, told in parts.
   No condition: these are laws of the clean machine. -/
import Derived.Test.YtokfjifeofpkkaaGreatV9
namespace Go.Proofs.YtokfjifeofpkkaaGreat.V
open Go
set_option linter.unusedVariables false
set_option linter.unusedSimpArgs false
def evL (E : Env) (nt : Nat) (call : FuncId → List Value → Heap → Option (Value × Heap)) (lf : Nat) : List Code → Fr → Heap → Option (Ex × Fr × Heap)
 | [], fr, h => some (.normal, fr, h)
 | c :: cs, fr, h => match evalC E nt call lf c fr h with
  | some (.normal, fr', h') => evL E nt call lf cs fr' h'
  | r => r
def flatC : Code → List Code
 | .seq a b => flatC a ++ flatC b
 | c => [c]
section
variable {E : Env} {nt lf : Nat} {call : FuncId → List Value → Heap → Option (Value × Heap)}
theorem evL_app : ∀ (as bs : List Code) (fr : Fr) (h : Heap), evL E nt call lf (as ++ bs) fr h = (match evL E nt call lf as fr h with
 | some (.normal, fr', h') => evL E nt call lf bs fr' h'
 | r => r)
 | [], bs, fr, h => rfl
 | c :: cs, bs, fr, h => by
  rw [List.cons_append, evL, evL]
  split
  ·
   exact evL_app cs bs _ _
  ·
   rename_i r q
   split
   ·
    rename_i e; exact absurd e (q _ _)
   ·
    rfl
theorem evL_one (c : Code) (fr : Fr) (h : Heap) : evL E nt call lf [c] fr h = evalC E nt call lf c fr h := by
 rw [evL]
 split
 ·
  rename_i e; rw [evL, e]
 ·
  rfl
theorem evL_flat : ∀ (c : Code) (fr : Fr) (h : Heap), evalC E nt call lf c fr h = evL E nt call lf (flatC c) fr h
 | .seq a b, fr, h => by
  rw [flatC, evL_app, ← evL_flat a, evalC]
  cases evalC E nt call lf a fr h with
  | none => rfl
  | some r =>
   obtain ⟨ex, fr', h'⟩ := r
   cases ex with
   | normal => exact evL_flat b _ _
   | exit _ => rfl
   | ret => rfl
 | .skip, fr, h => (evL_one _ _ _).symm
 | .label _, fr, h => (evL_one _ _ _).symm
 | .region _ _ _, fr, h => (evL_one _ _ _).symm
 | .cond _ _ _, fr, h => (evL_one _ _ _).symm
 | .block _ _, fr, h => (evL_one _ _ _).symm
 | .loop _, fr, h => (evL_one _ _ _).symm
 | .exit _, fr, h => (evL_one _ _ _).symm
 | .scope _, fr, h => (evL_one _ _ _).symm
 | .ret, fr, h => (evL_one _ _ _).symm
 | .goto _, fr, h => (evL_one _ _ _).symm
 | .rangeFunc _ _ _ _, fr, h => (evL_one _ _ _).symm
 | .refuse _, fr, h => (evL_one _ _ _).symm
end
def endsOk (E : Env) (rs : List ResultVar) (r : Option (Ex × Fr × Heap)) : Bool := match r with
 | some (.exit _, _, _) => false
 | some (_, fr, h') => (match resultsV E fr h' rs with | some [.bool b] => b | _ => false)
 | none => false
theorem run_ends {E : Env} {n f : Nat} {fn : Func} {c : Code} {h : Heap} (hp : E.prim f = none) (hf : E.P.funcs[f]? = some fn) (hb : fn.body = some c) (he : endsOk E fn.results.toList (evalC E fn.ntmps (run E n) n c (initF [] 0 .nil) h) = true) :
 ∃ h', run E (n + 1) f [] h = some (.bool true, h') := by
 have e0 : Nat.ble ([] : List Value).length fn.ntmps = true := Nat.ble_eq_true_of_le (Nat.zero_le _)
 rw [run, hp]
 dsimp only
 rw [hf]
 dsimp only
 rw [hb]
 dsimp only
 rw [e0]
 dsimp only [cond_true]
 unfold endsOk at he
 revert he
 cases evalC E fn.ntmps (run E n) n c (initF [] 0 .nil) h with
 | none => intro he; cases he
 | some r =>
  obtain ⟨ex, fr, h'⟩ := r
  cases ex with
  | exit _ => intro he; cases he
  | normal =>
   dsimp only
   cases resultsV E fr h' fn.results.toList with
   | none => intro he; cases he
   | some l =>
    match l with
    | [] => intro he; cases he
    | [.bool true] => intro _; exact ⟨h', rfl⟩
    | [.bool false] => intro he; cases he
    | _ :: _ :: _ => intro he; simp at he
    | [.int _ _] | [.float _ _] | [.complex _ _ _] | [.string _] | [.pointer _] | [.slice _ _ _] | [.map _] | [.chan _] | [.func _ _ _] | [.nilFunc] | [.iface _ _] | [.nilIface] | [.agg _] | [.tuple _] => intro he; cases he
  | ret =>
   dsimp only
   cases resultsV E fr h' fn.results.toList with
   | none => intro he; cases he
   | some l =>
    match l with
    | [] => intro he; cases he
    | [.bool true] => intro _; exact ⟨h', rfl⟩
    | [.bool false] => intro he; cases he
    | _ :: _ :: _ => intro he; simp at he
    | [.int _ _] | [.float _ _] | [.complex _ _ _] | [.string _] | [.pointer _] | [.slice _ _ _] | [.map _] | [.chan _] | [.func _ _ _] | [.nilFunc] | [.iface _ _] | [.nilIface] | [.agg _] | [.tuple _] => intro he; cases he
end Go.Proofs.YtokfjifeofpkkaaGreat.V
