/- A long run, told in parts.
   No condition: these are laws of the clean machine. -/
import Derived.Test.YtmogkmckjgeoiaaGreatV9
namespace Go.Proofs.YtmogkmckjgeoiaaGreat.V
open Go
set_option linter.unusedVariables false
set_option linter.unusedSimpArgs false
def evL (E : Env) (nt : Nat) (call : FuncId → List Value → Heap → Option (Value × Heap)) (lf : Nat) : List Code → Fr → Heap → Option (Ex × Fr × Heap)
 | [], fr, h => some (.normal, fr, h)
 | c :: cs, fr, h => match evalC E nt call lf c fr h with
  | some (.normal, fr', h') => evL E nt call lf cs fr' h'
  | r => r
def flatC : Code → List Code
 | .seq a b => flatC a ++ flatC b
 | c => [c]
section
variable {E : Env} {nt lf : Nat} {call : FuncId → List Value → Heap → Option (Value × Heap)}
theorem evL_app : ∀ (as bs : List Code) (fr : Fr) (h : Heap), evL E nt call lf (as ++ bs) fr h = (match evL E nt call lf as fr h with
 | some (.normal, fr', h') => evL E nt call lf bs fr' h'
 | r => r)
 | [], bs, fr, h => rfl
 | c :: cs, bs, fr, h => by
  rw [List.cons_append, evL, evL]
  split
  ·
   exact evL_app cs bs _ _
  ·
   rename_i r q
   split
   ·
    rename_i e; exact absurd e (q _ _)
   ·
    rfl
theorem evL_one (c : Code) (fr : Fr) (h : Heap) : evL E nt call lf [c] fr h = evalC E nt call lf c fr h := by
 rw [evL]
 split
 ·
  rename_i e; rw [evL, e]
 ·
  rfl
theorem evL_flat : ∀ (c : Code) (fr : Fr) (h : Heap), evalC E nt call lf c fr h = evL E nt call lf (flatC c) fr h
 | .seq a b, fr, h => by
  rw [flatC, evL_app, ← evL_flat a, evalC]
  cases evalC E nt call lf a fr h with
  | none => rfl
  | some r =>
   obtain ⟨ex, fr', h'⟩ := r
   cases ex with
   | normal => exact evL_flat b _ _
   | exit _ => rfl
   | ret => rfl
 | .skip, fr, h => (evL_one _ _ _).symm
 | .label _, fr, h => (evL_one _ _ _).symm
 | .region _ _ _, fr, h => (evL_one _ _ _).symm
 | .cond _ _ _, fr, h => (evL_one _ _ _).symm
 | .block _ _, fr, h => (evL_one _ _ _).symm
 | .loop _, fr, h => (evL_one _ _ _).symm
 | .exit _, fr, h => (evL_one _ _ _).symm
 | .scope _, fr, h => (evL_one _ _ _).symm
 | .ret, fr, h => (evL_one _ _ _).symm
 | .goto _, fr, h => (evL_one _ _ _).symm
 | .rangeFunc _ _ _ _, fr, h => (evL_one _ _ _).symm
 | .refuse _, fr, h => (evL_one _ _ _).symm
end
def itN (F : Fr → Heap → Option (Ex × Fr × Heap)) : Nat → Fr → Heap → Option (Fr × Heap)
 | 0, fr, h => some (fr, h)
 | k + 1, fr, h => match F fr h with
  | some (.normal, fr', h') => itN F k fr' h'
  | _ => none
theorem iter_add {F : Fr → Heap → Option (Ex × Fr × Heap)} (m : Nat) : ∀ (k : Nat) (fr : Fr) (h : Heap) (fr' : Fr) (h' : Heap), itN F k fr h = some (fr', h') → iter F (k + m) fr h = iter F m fr' h'
 | 0, fr, h, fr', h', e => by
  rw [itN] at e
  cases e
  rw [Nat.zero_add]
 | k + 1, fr, h, fr', h', e => by
  rw [itN] at e
  rw [show k + 1 + m = (k + m) + 1 from by omega, iter]
  split at e
  ·
   rename_i q
   rw [q]
   exact iter_add m k _ _ fr' h' e
  ·
   cases e
theorem itN_add {F : Fr → Heap → Option (Ex × Fr × Heap)} (m : Nat) : ∀ (k : Nat) (fr : Fr) (h : Heap) (fr' : Fr) (h' : Heap), itN F k fr h = some (fr', h') → itN F (k + m) fr h = itN F m fr' h'
 | 0, fr, h, fr', h', e => by
  rw [itN] at e
  cases e
  rw [Nat.zero_add]
 | k + 1, fr, h, fr', h', e => by
  rw [show k + 1 + m = (k + m) + 1 from by omega, itN]
  rw [itN] at e
  cases q : F fr h with
  | none => rw [q] at e; cases e
  | some r =>
   obtain ⟨ex, f2, h2⟩ := r
   rw [q] at e
   cases ex with
   | normal => exact itN_add m k f2 h2 fr' h' e
   | exit _ => cases e
   | ret => cases e
def tailE (E : Env) (nt : Nat) (call : FuncId → List Value → Heap → Option (Value × Heap)) (lf m id : Nat) (B : Code) (post : List Code) (fr : Fr) (h : Heap) : Option (Ex × Fr × Heap) :=
 match (match iter (fun fr h => evalC E nt call lf B fr h) m fr h with
  | some (.exit id', fr', h') => if id' = id then some (.normal, fr', h') else some (.exit id', fr', h')
  | r => r : Option (Ex × Fr × Heap)) with
 | some (.normal, fr', h') => evL E nt call lf post fr' h'
 | r => r
theorem staged {E : Env} {nt lf : Nat} {call : FuncId → List Value → Heap → Option (Value × Heap)} {c B : Code} {pre post : List Code} {id k m : Nat} {fr fr0 fr1 : Fr} {h h0 h1 : Heap}
 (hc : flatC c = pre ++ .block id (.loop B) :: post) (hA : evL E nt call lf pre fr h = some (.normal, fr0, h0)) (hB : itN (fun fr h => evalC E nt call lf B fr h) k fr0 h0 = some (fr1, h1)) (hl : lf = k + m) :
 evalC E nt call lf c fr h = tailE E nt call lf m id B post fr1 h1 := by
 rw [evL_flat, hc, evL_app, hA]
 dsimp only
 rw [evL, evalC, evalC, hl, iter_add m k fr0 h0 fr1 h1 (by rw [← hl]; exact hB), ← hl]
 rfl
def endsOk (E : Env) (rs : List ResultVar) (r : Option (Ex × Fr × Heap)) : Bool := match r with
 | some (.exit _, _, _) => false
 | some (_, fr, h') => (match resultsV E fr h' rs with | some [.bool b] => b | _ => false)
 | none => false
theorem run_ends {E : Env} {n f : Nat} {fn : Func} {c : Code} {h : Heap} (hp : E.prim f = none) (hf : E.P.funcs[f]? = some fn) (hb : fn.body = some c) (he : endsOk E fn.results.toList (evalC E fn.ntmps (run E n) n c (initF [] 0 .nil) h) = true) :
 ∃ h', run E (n + 1) f [] h = some (.bool true, h') := by
 have e0 : Nat.ble ([] : List Value).length fn.ntmps = true := Nat.ble_eq_true_of_le (Nat.zero_le _)
 rw [run, hp]
 dsimp only
 rw [hf]
 dsimp only
 rw [hb]
 dsimp only
 rw [e0]
 dsimp only [cond_true]
 unfold endsOk at he
 revert he
 cases evalC E fn.ntmps (run E n) n c (initF [] 0 .nil) h with
 | none => intro he; cases he
 | some r =>
  obtain ⟨ex, fr, h'⟩ := r
  cases ex with
  | exit _ => intro he; cases he
  | normal =>
   dsimp only
   cases resultsV E fr h' fn.results.toList with
   | none => intro he; cases he
   | some l =>
    match l with
    | [] => intro he; cases he
    | [.bool true] => intro _; exact ⟨h', rfl⟩
    | [.bool false] => intro he; cases he
    | _ :: _ :: _ => intro he; simp at he
    | [.int _ _] | [.float _ _] | [.complex _ _ _] | [.string _] | [.pointer _] | [.slice _ _ _] | [.map _] | [.chan _] | [.func _ _ _] | [.nilFunc] | [.iface _ _] | [.nilIface] | [.agg _] | [.tuple _] => intro he; cases he
  | ret =>
   dsimp only
   cases resultsV E fr h' fn.results.toList with
   | none => intro he; cases he
   | some l =>
    match l with
    | [] => intro he; cases he
    | [.bool true] => intro _; exact ⟨h', rfl⟩
    | [.bool false] => intro he; cases he
    | _ :: _ :: _ => intro he; simp at he
    | [.int _ _] | [.float _ _] | [.complex _ _ _] | [.string _] | [.pointer _] | [.slice _ _ _] | [.map _] | [.chan _] | [.func _ _ _] | [.nilFunc] | [.iface _ _] | [.nilIface] | [.agg _] | [.tuple _] => intro he; cases he
end Go.Proofs.YtmogkmckjgeoiaaGreat.V
