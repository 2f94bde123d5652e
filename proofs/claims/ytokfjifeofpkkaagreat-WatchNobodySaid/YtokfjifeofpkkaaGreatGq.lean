/- A pure call that is told; runs in parts.
   No condition: these are laws of the clean machine. -/
import Derived.Test.YtokfjifeofpkkaaGreatV31
import Derived.Test.YtokfjifeofpkkaaGreatStg
namespace Go.Proofs.YtokfjifeofpkkaaGreat.V
open Go
set_option linter.unusedVariables false
set_option linter.unusedSimpArgs false
noncomputable def toldP (b : Nat → Nat → Option Value) (q : List Value) (r : Value) (args : List Value) (h : Heap) : Option (Value × Heap) :=
 open Classical in if args = q ∧ h.base = b then some (r, h) else none
theorem toldP_framed (b : Nat → Nat → Option Value) (q : List Value) (r : Value) : Framed (fun _ => toldP b q r) := by
 intro S f h g args v f' m hc
 have hc' : toldP b q r args f = some (v, f') := hc
 unfold toldP at hc'
 split at hc'
 ·
  rename_i c
  cases hc'
  refine ⟨h, ?_, m, Kept.refl _ _⟩
  show toldP b q r args h = some (r, h)
  unfold toldP
  rw [if_pos ⟨c.1, m.base.trans c.2⟩]
 ·
  cases hc'
theorem toldP_eq {b : Nat → Nat → Option Value} {q : List Value} {r : Value} {h : Heap} (e : h.base = b) : toldP b q r q h = some (r, h) := by
 unfold toldP
 rw [if_pos ⟨rfl, e⟩]
theorem simB {P : Program} {Wr : Nat → Prop} {β : Inj} {h : Heap} {w : World} (S : Sim P Wr β h w) : Sim P (fun k => w.heap.size ≤ k) (fun _ => none) ⟨h.base, 0, 0, .nil⟩ w where
 base := fun b o v e => by
  obtain ⟨_, v', h1, h2⟩ := S.base b o v e
  exact ⟨fun hle => absurd (cell_lt h1) (Nat.not_lt.mpr hle), v', h1, h2⟩
 dom := fun b x h => by cases h
 tdom := fun b o h => by cases h
 live := fun b c T h => by cases h
 liveM := fun b es c h => by cases h
 liveI := fun b r s h => by cases h
 inj := fun b1 b2 x1 x2 _ _ h => by cases h
 wr := fun b x _ _ h => by cases h
 fresh := fun k h => h
 img := fun b x h => by cases h
theorem told_ok {E : Env} (hE : SideOK E) {g : FuncId} {b : Nat → Nat → Option Value} {q : List Value} {r : Value} (hp : plainN 4 r = true) (hq : ∀ β β' l, VRs β q l → VRs β' q l)
 (hr : Ev E g q ⟨b, 0, 0, .nil⟩ (fun v _ => v = r)) :
 ∀ args hp v' hp', toldP b q r args hp = some (v', hp') → ∀ Wr β w (args' : Array Value), Sim E.P Wr β hp w → VRs β args args'.toList → Calls E.P g args' w (Out E.P Wr β hp hp' v' w) := by
 intro args h v' h' hk Wr β w args' S ha
 unfold toldP at hk
 split at hk
 ·
  rename_i c
  cases hk
  obtain ⟨rfl, rfl⟩ := c
  obtain ⟨n, v, h2, hrun, _, rfl⟩ := hr
  refine (run_ok hE n g args _ _ _ hrun _ _ w args' (simB S) (hq _ _ _ ha)).mono ?_
  rintro e w' ⟨v2, β', rfl, _, _, hv, hf, _⟩
  have := plain_eq 4 hp hv
  subst this
  have ex : Ext w w' := ⟨hf.os, hf.tape, hf.output, hf.size, fun k hk => hf.block k (Nat.not_le.mpr hk)⟩
  refine ⟨_, β, rfl, Up.refl _ β, S.ext ex, VR.plain 4 _ hp, ⟨ex.os, ex.tape, ex.output, ex.size, fun k hk => ex.block k ?_⟩, Lm.refl _⟩
  rcases Nat.lt_or_ge k w.heap.size with q | q
  ·
   exact q
  ·
   exact absurd (S.fresh k q) hk
 ·
  cases hk
def envM (E : Env) (g : FuncId) (p : List Value → Heap → Option (Value × Heap)) : Env := { E with prim := fun f => bif Nat.beq f g then some p else E.prim f }
theorem envM_framed {E : Env} (hE : FramedE E) {g : FuncId} {p : List Value → Heap → Option (Value × Heap)} (hp : Framed (fun _ => p)) : FramedE (envM E g p) := by
 intro f p' h
 have h' : (bif Nat.beq f g then some p else E.prim f) = some p' := h
 cases e : Nat.beq f g with
 | true => rw [e] at h'; cases h'; exact hp
 | false => rw [e] at h'; exact hE f p' h'
theorem envM_ok {E : Env} (hE : SideOK E) {g : FuncId} {p : List Value → Heap → Option (Value × Heap)} (hf : Framed (fun _ => p))
 (hp : ∀ args hp v hp', p args hp = some (v, hp') → ∀ Wr β w (args' : Array Value), Sim E.P Wr β hp w → VRs β args args'.toList → Calls E.P g args' w (Out E.P Wr β hp hp' v w)) : SideOK (envM E g p) where
 eq := hE.eq
 name := hE.name
 mixed := hE.mixed
 framed := envM_framed hE.framed hf
 lex := by
  intro f fn c hg hb h
  refine hE.lex f fn c hg hb ?_
  have h' : (bif Nat.beq f g then some p else E.prim f) = none := h
  cases e : Nat.beq f g with
  | true => rw [e] at h'; cases h'
  | false => rw [e] at h'; exact h'
 meth := hE.meth
 prim := by
  intro f p' h
  have h' : (bif Nat.beq f g then some p else E.prim f) = some p' := h
  cases e : Nat.beq f g with
  | true => rw [e] at h'; cases h'; rw [Nat.eq_of_beq_eq_true e]; exact hp
  | false => rw [e] at h'; exact hE.prim f p' h'
def stepO (E : Env) (nt : Nat) (call : FuncId → List Value → Heap → Option (Value × Heap)) (p : Array Oper × Oper) (fr : Fr) (h : Heap) : Option (Fr × Heap) :=
 bif wantedV p.1 fr p.2 then
  match opP E call fr h p.2.op with
  | some (v, h') => match fr.put nt p.2.dst v with | some fr' => some (fr', h') | none => none
  | none => none
 else match fr.put nt p.2.dst undef with | some fr' => some (fr', h) | none => none
def runF (E : Env) (nt : Nat) (call : FuncId → List Value → Heap → Option (Value × Heap)) : List (Array Oper × Oper) → Fr × Heap → Option (Fr × Heap)
 | [], s => some s
 | p :: r, s => match stepO E nt call p s.1 s.2 with
  | some s' => runF E nt call r s'
  | none => none
section
variable {E : Env} {nt lf : Nat} {call : FuncId → List Value → Heap → Option (Value × Heap)}
theorem runF_app : ∀ (a b : List (Array Oper × Oper)) (s : Fr × Heap), runF E nt call (a ++ b) s = (match runF E nt call a s with | some s' => runF E nt call b s' | none => none)
 | [], b, s => rfl
 | p :: a, b, s => by
  rw [List.cons_append, runF, runF]
  cases stepO E nt call p s.1 s.2 with
  | none => rfl
  | some s' => exact runF_app a b s'
theorem runOps_F (ops : Array Oper) : ∀ (l : List Oper) (fr : Fr) (h : Heap), runOps E nt call ops l fr h = runF E nt call (l.map fun o => (ops, o)) (fr, h)
 | [], fr, h => rfl
 | o :: l, fr, h => by
  rw [List.map_cons, runF, runOps]
  dsimp only [stepO]
  cases wantedV ops fr o with
  | true =>
   dsimp only [cond_true]
   cases opP E call fr h o.op with
   | none => rfl
   | some r =>
    obtain ⟨v, h'⟩ := r
    dsimp only
    cases fr.put nt o.dst v with
    | none => rfl
    | some fr' => exact runOps_F ops l fr' h'
  | false =>
   dsimp only [cond_false]
   cases fr.put nt o.dst undef with
   | none => rfl
   | some fr' => exact runOps_F ops l fr' h
def opsOf : Code → List (Array Oper × Oper)
 | .region _ ops _ => ops.toList.map fun o => (ops, o)
 | _ => []
theorem evalR_F {id : Nat} {ops : Array Oper} {s : Fr × Heap} : evalC E nt call lf (.region id ops false) s.1 s.2 = (match runF E nt call (opsOf (.region id ops false)) s with | some (fr, h) => some (.normal, fr, h) | none => none) := by
 rw [evalC, opsOf, cond_false, runOps_F]
 rfl
end
section
variable {E : Env} {nt lf : Nat} {call : FuncId → List Value → Heap → Option (Value × Heap)}
theorem step_call {p : Array Oper × Oper} {fr : Fr} {h : Heap} {g : FuncId} {args : List Value} {v : Value} {h' : Heap} {d : Nat} (hw : wantedV p.1 fr p.2 = true) (ho : ∀ call, opV E call fr h p.2.op = call g args h)
 (hd : p.2.dst = some d) (hn : Nat.blt d nt = true) (hc : call g args h = some (v, h')) : stepO E nt call p fr h = some (fr.set d v, h') := by
 rw [stepO, hw, cond_true, opP, ho, hc]
 dsimp only
 rw [hd, put_lt hn]
theorem step_readM {p : Array Oper × Oper} {fr : Fr} {h : Heap} {v : Value} {d : Nat} (hw : wantedV p.1 fr p.2 = true) (ho : readV E fr h p.2.op = some v)
 (hd : p.2.dst = some d) (hn : Nat.blt d nt = true) : stepO E nt call p fr h = some (fr.set d v, h) := by
 rw [stepO, hw, cond_true, opP, opV, ho]
 dsimp only
 rw [hd, put_lt hn]
end
def finV (E : Env) (rs : List ResultVar) (r : Option (Ex × Fr × Heap)) : Option (Value × Heap) := match r with
 | some (.exit _, _, _) => none
 | some (_, fr, h') => match resultsV E fr h' rs with
  | some l => some (packV l, h')
  | none => none
 | none => none
theorem run_primM {E : Env} {n : Nat} {f : FuncId} {args : List Value} {h : Heap} {p : List Value → Heap → Option (Value × Heap)} (hp : E.prim f = some p) : run E (n + 1) f args h = p args h := by
 rw [run, hp]
def stV (r : Option (Value × Heap)) : Value × Heap := match r with | some s => s | none => (.nilFunc, heapE)
theorem stV_eq {r : Option (Value × Heap)} (h : r.isSome = true) : r = some (stV r) := by
 cases r with
 | none => cases h
 | some s => rfl
inductive Kt
 | seqR (b : Code)
 | blk (id : Nat)
 | ops (l : List (Array Oper × Oper))
 | sched (ops : Array Oper) (sl : List (Nat × Nat)) (l : List (Nat × List Nat))
inductive Dir
 | L | B | C | E | P | G
 | O (j : Nat)
 | D
 | S (i : Nat)
structure Mc where
 cur : Option Code
 ks : List Kt
 fr : Fr
 h : Heap
section
variable (E : Env) (nt lf : Nat) (call : FuncId → List Value → Heap → Option (Value × Heap))
def kont : Kt → Option (Ex × Fr × Heap) → Option (Ex × Fr × Heap)
 | .seqR b, r => match r with | some (.normal, fr, h) => evalC E nt call lf b fr h | r => r
 | .blk id, r => match r with | some (.exit id', fr', h') => if id' = id then some (.normal, fr', h') else some (.exit id', fr', h') | r => r
 | .ops l, r => match r with | some (.normal, fr, h) => (match runF E nt call l (fr, h) with | some s => some (.normal, s) | none => none) | r => r
 | .sched ops sl l, r => match r with | some (.normal, fr, h) => (match runSched E nt call ops sl l fr h with | some s => some (.normal, s) | none => none) | r => r
def plug : List Kt → Option (Ex × Fr × Heap) → Option (Ex × Fr × Heap)
 | [], r => r
 | k :: ks, r => plug ks (kont E nt lf call k r)
def curV (M : Mc) : Option (Ex × Fr × Heap) := match M.cur with
 | some c => evalC E nt call lf c M.fr M.h
 | none => some (.normal, M.fr, M.h)
def valM (M : Mc) : Option (Ex × Fr × Heap) := plug E nt lf call M.ks (curV E nt lf call M)
def adv1 (M : Mc) : Dir → Option Mc
 | .L => match M.cur with | some (.seq a b) => some ⟨some a, .seqR b :: M.ks, M.fr, M.h⟩ | _ => none
 | .B => match M.cur with | some (.block id a) => some ⟨some a, .blk id :: M.ks, M.fr, M.h⟩ | _ => none
 | .C => match M.cur with
  | some (.cond c a b) => match ev M.fr c with
   | some (.bool true) => some ⟨some a, M.ks, M.fr, M.h⟩
   | some (.bool false) => some ⟨some b, M.ks, M.fr, M.h⟩
   | _ => none
  | _ => none
 | .E => match M.cur with
  | some c => match evalC E nt call lf c M.fr M.h with | some (.normal, fr, h) => some ⟨none, M.ks, fr, h⟩ | _ => none
  | none => none
 | .P => match M.cur, M.ks with
  | none, .seqR b :: ks => some ⟨some b, ks, M.fr, M.h⟩
  | none, .blk _ :: ks => some ⟨none, ks, M.fr, M.h⟩
  | none, .ops [] :: ks => some ⟨none, ks, M.fr, M.h⟩
  | none, .sched _ _ [] :: ks => some ⟨none, ks, M.fr, M.h⟩
  | _, _ => none
 | .G => match M.cur with
  | some (.region id ops false) => some ⟨none, .ops (opsOf (.region id ops false)) :: M.ks, M.fr, M.h⟩
  | _ => none
 | .O j => match M.cur, M.ks with
  | none, .ops l :: ks => match runF E nt call (l.take j) (M.fr, M.h) with | some s => some ⟨none, .ops (l.drop j) :: ks, s.1, s.2⟩ | none => none
  | _, _ => none
 | .D => match M.cur with
  | some (.region id ops true) => bif quietR E.P ops then none else some ⟨none, .sched ops (slots ops M.h.n) (sched ops) :: M.ks, M.fr, resv (slots ops M.h.n).length M.h⟩
  | _ => none
 | .S i => match M.cur, M.ks with
  | none, .sched ops sl l :: ks => match runSched E nt call ops sl (l.takeWhile fun x => !Nat.beq x.1 i) M.fr M.h with | some s => some ⟨none, .sched ops sl (l.dropWhile fun x => !Nat.beq x.1 i) :: ks, s.1, s.2⟩ | none => none
  | _, _ => none
def advM : List Dir → Mc → Option Mc
 | [], M => some M
 | d :: ds, M => match adv1 E nt lf call M d with | some M' => advM ds M' | none => none
end
section
variable {E : Env} {nt lf : Nat} {call : FuncId → List Value → Heap → Option (Value × Heap)}
theorem runSched_app (ops : Array Oper) (sl : List (Nat × Nat)) : ∀ (a c : List (Nat × List Nat)) (fr : Fr) (h : Heap), runSched E nt call ops sl (a ++ c) fr h = (match runSched E nt call ops sl a fr h with | some s' => runSched E nt call ops sl c s'.1 s'.2 | none => none)
 | [], c, fr, h => rfl
 | (i, ck) :: a, c, fr, h => by
  rw [List.cons_append, runSched, runSched]
  cases ops[i]? with
  | none => rfl
  | some o =>
   dsimp only
   cases wantedV ops fr o with
   | true =>
    dsimp only [cond_true]
    cases opS E call sl i fr h o.op with
    | none => rfl
    | some r =>
     obtain ⟨v, h'⟩ := r
     dsimp only
     cases chkR E ops fr h h' ck with
     | false => rfl
     | true =>
      dsimp only [cond_true]
      cases fr.put nt o.dst v with
      | none => rfl
      | some fr' => exact runSched_app ops sl a c fr' h'
   | false =>
    dsimp only [cond_false]
    cases fr.put nt o.dst undef with
    | none => rfl
    | some fr' => exact runSched_app ops sl a c fr' h
theorem adv1_eq {M M' : Mc} {d : Dir} (e : adv1 E nt lf call M d = some M') : valM E nt lf call M = valM E nt lf call M' := by
 obtain ⟨cur, ks, fr, h⟩ := M
 cases d with
 | L =>
  dsimp only [adv1] at e; split at e
  ·
   cases e
   rename_i a b
   simp only [valM, curV, plug, kont, evalC]
   rcases evalC E nt call lf a fr h with _ | ⟨x, f1, h1⟩
   ·
    rfl
   ·
    cases x <;> rfl
  ·
   cases e
 | B =>
  dsimp only [adv1] at e; split at e
  ·
   cases e
   rename_i id a
   simp only [valM, curV, plug, kont, evalC]
   rcases evalC E nt call lf a fr h with _ | ⟨x, f1, h1⟩
   ·
    rfl
   ·
    cases x <;> rfl
  ·
   cases e
 | C =>
  dsimp only [adv1] at e; split at e
  ·
   skip
   split at e
   ·
    rename_i q; cases e; simp only [valM, curV, evalC, q]
   ·
    rename_i q; cases e; simp only [valM, curV, evalC, q]
   ·
    cases e
  ·
   cases e
 | E =>
  dsimp only [adv1] at e; split at e
  ·
   skip
   split at e
   ·
    rename_i q; cases e; simp only [valM, curV, q]
   ·
    cases e
  ·
   cases e
 | P =>
  dsimp only [adv1] at e; split at e
  ·
   cases e; simp only [valM, curV, plug, kont]
  ·
   cases e; simp only [valM, curV, plug, kont]
  ·
   cases e; simp only [valM, curV, plug, kont, runF]
  ·
   cases e; simp only [valM, curV, plug, kont, runSched]
  ·
   cases e
 | G =>
  dsimp only [adv1] at e; split at e
  ·
   rename_i id ops; cases e
   have := evalR_F (E := E) (nt := nt) (lf := lf) (call := call) (id := id) (ops := ops) (s := (fr, h))
   dsimp only at this
   simp only [valM, curV, plug, kont, this]
   cases runF E nt call (opsOf (Code.region id ops false)) (fr, h) <;> rfl
  ·
   cases e
 | O j =>
  dsimp only [adv1] at e; split at e
  ·
   rename_i l ks'
   split at e
   ·
    rename_i s q
    cases e
    simp only [valM, curV, plug, kont]
    have g := runF_app (E := E) (nt := nt) (call := call) (l.take j) (l.drop j) (fr, h)
    rw [List.take_append_drop, q] at g
    rw [g]
   ·
    cases e
  ·
   cases e
 | D =>
  dsimp only [adv1] at e; split at e
  ·
   rename_i id ops
   cases hq : quietR E.P ops with
   | true => rw [hq] at e; cases e
   | false =>
    rw [hq] at e
    cases e
    simp only [valM, curV, plug, kont, evalC, hq, cond_true, cond_false, runDrawn]
    cases runSched E nt call ops (slots ops h.n) (sched ops) fr (resv (slots ops h.n).length h) <;> rfl
  ·
   cases e
 | S i =>
  dsimp only [adv1] at e; split at e
  ·
   rename_i ops sl l ks'
   split at e
   ·
    rename_i s q
    cases e
    simp only [valM, curV, plug, kont]
    have g := runSched_app (E := E) (nt := nt) (call := call) ops sl (l.takeWhile fun x => !Nat.beq x.1 i) (l.dropWhile fun x => !Nat.beq x.1 i) fr h
    rw [List.takeWhile_append_dropWhile, q] at g
    rw [g]
   ·
    cases e
  ·
   cases e
theorem adv_eq : ∀ {ds : List Dir} {M M' : Mc}, advM E nt lf call ds M = some M' → valM E nt lf call M = valM E nt lf call M'
 | [], M, M', e => by cases e; rfl
 | d :: ds, M, M', e => by
  unfold advM at e
  split at e
  ·
   rename_i M1 q; exact (adv1_eq q).trans (adv_eq e)
  ·
   cases e
theorem spec_eq {M M' : Mc} {s' : Fr × Heap} {x : Array Oper × Oper} {l : List (Array Oper × Oper)} {ks : List Kt} (hc : M.cur = none) (hk : M.ks = .ops (x :: l) :: ks) (hs : stepO E nt call x M.fr M.h = some s')
 (hM : M' = ⟨none, .ops l :: ks, s'.1, s'.2⟩) : valM E nt lf call M = valM E nt lf call M' := by
 subst hM
 obtain ⟨cur, ks', fr, h⟩ := M
 dsimp only at hc hk hs
 subst hc hk
 simp only [valM, curV, plug, kont, runF, hs]
end
def topOp (M : Mc) : Array Oper × Oper := match M.ks with
 | .ops (x :: _) :: _ => x
 | _ => (#[], ⟨none, .move (.tmp 0), 0, "", #[], none⟩)
def hasTop (M : Mc) : Bool := match M.cur, M.ks with
 | none, .ops (_ :: _) :: _ => true
 | _, _ => false
def putM (M : Mc) (d : Nat) (v : Value) (h : Heap) : Mc := match M.ks with
 | .ops (_ :: l) :: ks => ⟨none, .ops l :: ks, M.fr.set d v, h⟩
 | _ => M
theorem told_eq {E : Env} {nt lf : Nat} {call : FuncId → List Value → Heap → Option (Value × Heap)} {M : Mc} {d : Nat} {v : Value} {h' : Heap} (ht : hasTop M = true) (hs : stepO E nt call (topOp M) M.fr M.h = some (M.fr.set d v, h')) :
 valM E nt lf call M = valM E nt lf call (putM M d v h') := by
 obtain ⟨cur, ks, fr, h⟩ := M
 match cur, ks, ht with
 | none, .ops (x :: l) :: ks, _ => exact spec_eq rfl rfl hs rfl
def topS (M : Mc) : Array Oper × Nat × List Nat := match M.ks with
 | .sched ops _ ((i, ck) :: _) :: _ => (ops, i, ck)
 | _ => (#[], 0, [])
def opOfS (M : Mc) : Oper := match (topS M).1[(topS M).2.1]? with
 | some o => o
 | none => ⟨none, .move (.tmp 0), 0, "", #[], none⟩
def hasS (M : Mc) : Bool := match M.cur, M.ks with
 | none, .sched ops _ ((i, _) :: _) :: _ => ops[i]?.isSome
 | _, _ => false
def putS (M : Mc) (d : Nat) (v : Value) (h : Heap) : Mc := match M.ks with
 | .sched ops sl (_ :: l) :: ks => ⟨none, .sched ops sl l :: ks, M.fr.set d v, h⟩
 | _ => M
theorem toldS_eq {E : Env} {nt lf : Nat} {call : FuncId → List Value → Heap → Option (Value × Heap)} {M : Mc} {d : Nat} {v : Value} {h' : Heap} {g : FuncId} {args : List Value} (ht : hasS M = true)
 (hw : wantedV (topS M).1 M.fr (opOfS M) = true) (ha : allocK (opOfS M).op = false) (ho : ∀ call, opV E call M.fr M.h (opOfS M).op = call g args M.h) (hd : (opOfS M).dst = some d) (hn : Nat.blt d nt = true)
 (hk : chkR E (topS M).1 M.fr M.h h' (topS M).2.2 = true) (hc : call g args M.h = some (v, h')) :
 valM E nt lf call M = valM E nt lf call (putS M d v h') := by
 obtain ⟨cur, ks, fr, h⟩ := M
 match cur, ks, ht with
 | none, .sched ops sl ((i, ck) :: l) :: ks, ht =>
  obtain ⟨o, q⟩ := Option.isSome_iff_exists.mp (show ops[i]?.isSome = true from ht)
  have e : opOfS ⟨none, .sched ops sl ((i, ck) :: l) :: ks, fr, h⟩ = o := by
   unfold opOfS topS
   dsimp only
   rw [q]
  rw [e] at hw ha ho hd
  have hw' : wantedV ops fr o = true := hw
  have hk' : chkR E ops fr h h' ck = true := hk
  have ho' : opV E call fr h o.op = call g args h := ho call
  have hc' : call g args h = some (v, h') := hc
  simp only [valM, curV, plug, kont, putS]
  rw [runSched, q]
  dsimp only
  rw [hw', cond_true, opS, ha, cond_false, opP, ho', hc']
  dsimp only
  rw [hk', cond_true, hd, put_lt hn]
def argsV (E : Env) (fr : Fr) (op : Op) : List Value := match calleeV E fr op with
 | some (_, args) => args
 | none => []
def stM (r : Option Mc) : Mc := match r with | some M => M | none => ⟨none, [], .nil, heapE⟩
theorem stM_eq {r : Option Mc} (h : r.isSome = true) : r = some (stM r) := by
 cases r with
 | none => cases h
 | some s => rfl
theorem run_val {E : Env} {n : Nat} {f : FuncId} {args : List Value} {h : Heap} (hp : E.prim f = none) {fn : Func} (hf : E.P.funcs[f]? = some fn) {c : Code} (hc : fn.body = some c) (ha : Nat.ble args.length fn.ntmps = true) :
 run E (n + 1) f args h = finV E fn.results.toList (valM E fn.ntmps n (run E n) ⟨some c, [], initF args 0 .nil, h⟩) := by
 rw [run_step hp hf hc, ha, cond_true]
 rfl
end Go.Proofs.YtokfjifeofpkkaaGreat.V
