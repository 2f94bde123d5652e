/- A pure call that is told; runs in parts.
   No condition: these are laws of the clean machine. -/
import Derived.Test.YtmogkmckjgeoiaaGreatV31
import Derived.Test.YtmogkmckjgeoiaaGreatStg
namespace Go.Proofs.YtmogkmckjgeoiaaGreat.V
open Go
set_option linter.unusedVariables false
set_option linter.unusedSimpArgs false
noncomputable def toldP (b : Nat → Nat → Option Value) (q : List Value) (r : Value) (args : List Value) (h : Heap) : Option (Value × Heap) :=
 open Classical in if args = q ∧ h.base = b then some (r, h) else none
theorem toldP_framed (b : Nat → Nat → Option Value) (q : List Value) (r : Value) : Framed (fun _ => toldP b q r) := by
 intro S f h g args v f' m hc
 have hc' : toldP b q r args f = some (v, f') := hc
 unfold toldP at hc'
 split at hc'
 ·
  rename_i c
  cases hc'
  refine ⟨h, ?_, m, Kept.refl _ _⟩
  show toldP b q r args h = some (r, h)
  unfold toldP
  rw [if_pos ⟨c.1, m.base.trans c.2⟩]
 ·
  cases hc'
theorem toldP_eq {b : Nat → Nat → Option Value} {q : List Value} {r : Value} {h : Heap} (e : h.base = b) : toldP b q r q h = some (r, h) := by
 unfold toldP
 rw [if_pos ⟨rfl, e⟩]
theorem simB {P : Program} {Wr : Nat → Prop} {β : Inj} {h : Heap} {w : World} (S : Sim P Wr β h w) : Sim P (fun k => w.heap.size ≤ k) (fun _ => none) ⟨h.base, 0, 0, .nil⟩ w where
 base := fun b o v e => by
  obtain ⟨_, v', h1, h2⟩ := S.base b o v e
  exact ⟨fun hle => absurd (cell_lt h1) (Nat.not_lt.mpr hle), v', h1, h2⟩
 dom := fun b x h => by cases h
 tdom := fun b o h => by cases h
 live := fun b c T h => by cases h
 liveM := fun b es h => by cases h
 inj := fun b1 b2 x1 x2 _ _ h => by cases h
 wr := fun b x _ _ h => by cases h
 fresh := fun k h => h
 img := fun b x h => by cases h
theorem told_ok {E : Env} (hE : SideOK E) {g : FuncId} {b : Nat → Nat → Option Value} {q : List Value} {r : Value} (hp : plainN 4 r = true) (hq : ∀ β β' l, VRs β q l → VRs β' q l)
 (hr : Ev E g q ⟨b, 0, 0, .nil⟩ (fun v _ => v = r)) :
 ∀ args hp v' hp', toldP b q r args hp = some (v', hp') → ∀ Wr β w (args' : Array Value), Sim E.P Wr β hp w → VRs β args args'.toList → Calls E.P g args' w (Out E.P Wr β hp hp' v' w) := by
 intro args h v' h' hk Wr β w args' S ha
 unfold toldP at hk
 split at hk
 ·
  rename_i c
  cases hk
  obtain ⟨rfl, rfl⟩ := c
  obtain ⟨n, v, h2, hrun, _, rfl⟩ := hr
  refine (run_ok hE n g args _ _ _ hrun _ _ w args' (simB S) (hq _ _ _ ha)).mono ?_
  rintro e w' ⟨v2, β', rfl, _, _, hv, hf, _⟩
  have := plain_eq 4 hp hv
  subst this
  have ex : Ext w w' := ⟨hf.os, hf.tape, hf.output, hf.size, fun k hk => hf.block k (Nat.not_le.mpr hk)⟩
  refine ⟨_, β, rfl, Up.refl _ β, S.ext ex, VR.plain 4 _ hp, ⟨ex.os, ex.tape, ex.output, ex.size, fun k hk => ex.block k ?_⟩, Lm.refl _⟩
  rcases Nat.lt_or_ge k w.heap.size with q | q
  ·
   exact q
  ·
   exact absurd (S.fresh k q) hk
 ·
  cases hk
def envM (E : Env) (g : FuncId) (p : List Value → Heap → Option (Value × Heap)) : Env := { E with prim := fun f => bif Nat.beq f g then some p else E.prim f }
theorem envM_framed {E : Env} (hE : FramedE E) {g : FuncId} {p : List Value → Heap → Option (Value × Heap)} (hp : Framed (fun _ => p)) : FramedE (envM E g p) := by
 intro f p' h
 have h' : (bif Nat.beq f g then some p else E.prim f) = some p' := h
 cases e : Nat.beq f g with
 | true => rw [e] at h'; cases h'; exact hp
 | false => rw [e] at h'; exact hE f p' h'
theorem envM_ok {E : Env} (hE : SideOK E) {g : FuncId} {p : List Value → Heap → Option (Value × Heap)} (hf : Framed (fun _ => p))
 (hp : ∀ args hp v hp', p args hp = some (v, hp') → ∀ Wr β w (args' : Array Value), Sim E.P Wr β hp w → VRs β args args'.toList → Calls E.P g args' w (Out E.P Wr β hp hp' v w)) : SideOK (envM E g p) where
 eq := hE.eq
 name := hE.name
 mixed := hE.mixed
 framed := envM_framed hE.framed hf
 lex := by
  intro f fn c hg hb h
  refine hE.lex f fn c hg hb ?_
  have h' : (bif Nat.beq f g then some p else E.prim f) = none := h
  cases e : Nat.beq f g with
  | true => rw [e] at h'; cases h'
  | false => rw [e] at h'; exact h'
 meth := hE.meth
 prim := by
  intro f p' h
  have h' : (bif Nat.beq f g then some p else E.prim f) = some p' := h
  cases e : Nat.beq f g with
  | true => rw [e] at h'; cases h'; rw [Nat.eq_of_beq_eq_true e]; exact hp
  | false => rw [e] at h'; exact hE.prim f p' h'
theorem vr_flag {v v' : Value} (h : okC v = true) {β : Inj} (r : VR β (flagS v) v') (β' : Inj) : VR β' (flagS v) v' := by
 cases v with
 | bool b => cases r; exact .bool b
 | int k n => cases r; exact .int k n
 | string s => cases r; exact .string s
 | slice a l c =>
  cases a with
  | none => cases r; exact .sliceNil l c
  | some a =>
   obtain ⟨b, o, s⟩ := a
   cases s with
   | none => cases r; rename_i h; cases h; exact .slice .base l c
   | some s => cases r; rename_i h; cases h; exact .slice .odd l c
 | pointer a =>
  cases a with
  | none => cases r; exact .ptrNil
  | some a =>
   obtain ⟨b, o, s⟩ := a
   cases s with
   | none => cases r; rename_i h; cases h; exact .ptr .base
   | some s => cases r; rename_i h; cases h; exact .ptr .odd
 | _ => cases h
theorem vrs_flag : ∀ {cs l : List Value} (h : cs.all okC = true) {β : Inj} (r : VRs β (cs.map flagS) l) (β' : Inj), VRs β' (cs.map flagS) l
 | [], l, _, β, r, β' => by cases r; exact .nil
 | c :: cs, l, h, β, r, β' => by
  rw [List.all_cons, Bool.and_eq_true] at h
  cases r with
  | cons r1 r2 => exact .cons (vr_flag h.1 r1 β') (vrs_flag h.2 r2 β')
theorem rigid_agg {cs A : List Value} (h : cs.all okC = true) (e : cs.map flagS = A) : ∀ β β' l, VRs β [.agg A.toArray] l → VRs β' [.agg A.toArray] l := by
 subst e
 intro β β' l r
 cases r with
 | cons r1 r2 =>
  cases r2
  cases r1 with
  | agg r1 => exact .cons (.agg (by simpa using vrs_flag h (by simpa using r1) β')) .nil
def stepO (E : Env) (nt : Nat) (call : FuncId → List Value → Heap → Option (Value × Heap)) (p : Array Oper × Oper) (fr : Fr) (h : Heap) : Option (Fr × Heap) :=
 bif wantedV p.1 fr p.2 then
  match opV E call fr h p.2.op with
  | some (v, h') => match fr.put nt p.2.dst v with | some fr' => some (fr', h') | none => none
  | none => none
 else match fr.put nt p.2.dst undef with | some fr' => some (fr', h) | none => none
def runF (E : Env) (nt : Nat) (call : FuncId → List Value → Heap → Option (Value × Heap)) : List (Array Oper × Oper) → Fr × Heap → Option (Fr × Heap)
 | [], s => some s
 | p :: r, s => match stepO E nt call p s.1 s.2 with
  | some s' => runF E nt call r s'
  | none => none
section
variable {E : Env} {nt lf : Nat} {call : FuncId → List Value → Heap → Option (Value × Heap)}
theorem runF_app : ∀ (a b : List (Array Oper × Oper)) (s : Fr × Heap), runF E nt call (a ++ b) s = (match runF E nt call a s with | some s' => runF E nt call b s' | none => none)
 | [], b, s => rfl
 | p :: a, b, s => by
  rw [List.cons_append, runF, runF]
  cases stepO E nt call p s.1 s.2 with
  | none => rfl
  | some s' => exact runF_app a b s'
theorem runOps_F (ops : Array Oper) : ∀ (l : List Oper) (fr : Fr) (h : Heap), runOps E nt call ops l fr h = runF E nt call (l.map fun o => (ops, o)) (fr, h)
 | [], fr, h => rfl
 | o :: l, fr, h => by
  rw [List.map_cons, runF, runOps]
  dsimp only [stepO]
  cases wantedV ops fr o with
  | true =>
   dsimp only [cond_true]
   cases opV E call fr h o.op with
   | none => rfl
   | some r =>
    obtain ⟨v, h'⟩ := r
    dsimp only
    cases fr.put nt o.dst v with
    | none => rfl
    | some fr' => exact runOps_F ops l fr' h'
  | false =>
   dsimp only [cond_false]
   cases fr.put nt o.dst undef with
   | none => rfl
   | some fr' => exact runOps_F ops l fr' h
def opsOf : Code → List (Array Oper × Oper)
 | .region _ ops _ => ops.toList.map fun o => (ops, o)
 | _ => []
theorem evalR_F {id : Nat} {ops : Array Oper} {s : Fr × Heap} : evalC E nt call lf (.region id ops false) s.1 s.2 = (match runF E nt call (opsOf (.region id ops false)) s with | some (fr, h) => some (.normal, fr, h) | none => none) := by
 rw [evalC, opsOf, cond_false, runOps_F]
 rfl
end
def isReg : Code → Bool
 | .region _ _ d => !d
 | _ => false
def codeL : List Code → List (Array Oper × Oper)
 | [] => []
 | c :: r => opsOf c ++ codeL r
def stF (r : Option (Fr × Heap)) : Fr × Heap := match r with | some s => s | none => (.nil, heapE)
theorem stF_eq {r : Option (Fr × Heap)} (h : r.isSome = true) : r = some (stF r) := by
 cases r with
 | none => cases h
 | some s => rfl
section
variable {E : Env} {nt lf : Nat} {call : FuncId → List Value → Heap → Option (Value × Heap)}
theorem evL_regs : ∀ (l cs : List Code) (s : Fr × Heap), l.all isReg = true → evL E nt call lf (l ++ cs) s.1 s.2 = (match runF E nt call (codeL l) s with | some s' => evL E nt call lf cs s'.1 s'.2 | none => none)
 | [], cs, s, _ => rfl
 | c :: l, cs, s, h => by
  rw [List.all_cons, Bool.and_eq_true] at h
  cases c with
  | region id ops d =>
   cases d with
   | true => simp [isReg] at h
   | false =>
    rw [List.cons_append, evL, evalR_F, codeL, runF_app]
    cases runF E nt call (opsOf (.region id ops false)) s with
    | none => rfl
    | some s' => exact evL_regs l cs s' h.2
  | _ => simp [isReg] at h
theorem step_call {p : Array Oper × Oper} {s : Fr × Heap} {g : FuncId} {args : List Value} {v : Value} {h' : Heap} {d : Nat} (hw : wantedV p.1 s.1 p.2 = true) (ho : opV E call s.1 s.2 p.2.op = call g args s.2)
 (hd : p.2.dst = some d) (hn : Nat.blt d nt = true) (hc : call g args s.2 = some (v, h')) : stepO E nt call p s.1 s.2 = some (s.1.set d v, h') := by
 rw [stepO, hw, cond_true, ho, hc]
 dsimp only
 rw [hd, put_lt hn]
theorem runF_three {a c : List (Array Oper × Oper)} {p : Array Oper × Oper} {s s1 s2 : Fr × Heap} (h1 : runF E nt call a s = some s1) (h2 : stepO E nt call p s1.1 s1.2 = some s2) : runF E nt call (a ++ p :: c) s = runF E nt call c s2 := by
 rw [runF_app, h1]
 dsimp only
 rw [runF, h2]
end
theorem ret_L {E : Env} {nt lf : Nat} {call : FuncId → List Value → Heap → Option (Value × Heap)} (fr : Fr) (h : Heap) : evL E nt call lf [.ret] fr h = some (.ret, fr, h) := rfl
def stE (r : Option (Ex × Fr × Heap)) : Fr × Heap := match r with | some (.normal, s) => s | _ => (.nil, heapE)
def isN (r : Option (Ex × Fr × Heap)) : Bool := match r with | some (.normal, _) => true | _ => false
theorem stE_eq {r : Option (Ex × Fr × Heap)} (h : isN r = true) : r = some (.normal, stE r) := by
 match r, h with
 | some (.normal, s), _ => rfl
def finV (E : Env) (rs : List ResultVar) (r : Option (Ex × Fr × Heap)) : Option (Value × Heap) := match r with
 | some (.exit _, _, _) => none
 | some (_, fr, h') => match resultsV E fr h' rs with
  | some l => some (packV l, h')
  | none => none
 | none => none
theorem run_fin {E : Env} {n : Nat} {f : FuncId} {args : List Value} {h : Heap} (hp : E.prim f = none) {fn : Func} (hf : E.P.funcs[f]? = some fn) {c : Code} (hc : fn.body = some c) (ha : Nat.ble args.length fn.ntmps = true) :
 run E (n + 1) f args h = finV E fn.results.toList (evL E fn.ntmps (run E n) n (flatC c) (initF args 0 .nil) h) := by
 rw [run_step hp hf hc, ha, cond_true, evL_flat]
 rfl
theorem run_primM {E : Env} {n : Nat} {f : FuncId} {args : List Value} {h : Heap} {p : List Value → Heap → Option (Value × Heap)} (hp : E.prim f = some p) : run E (n + 1) f args h = p args h := by
 rw [run, hp]
def stV (r : Option (Value × Heap)) : Value × Heap := match r with | some s => s | none => (.nilFunc, heapE)
theorem stV_eq {r : Option (Value × Heap)} (h : r.isSome = true) : r = some (stV r) := by
 cases r with
 | none => cases h
 | some s => rfl
def nthO (l : List (Array Oper × Oper)) (i : Nat) : Array Oper × Oper := match l.drop i with
 | x :: _ => x
 | [] => (#[], ⟨none, .move (.tmp 0), 0, "", #[], none⟩)
end Go.Proofs.YtmogkmckjgeoiaaGreat.V
