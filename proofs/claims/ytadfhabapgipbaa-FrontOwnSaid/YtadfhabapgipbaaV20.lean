/- The logic's rules, operation by operation.
   No condition: these are laws of the clean machine. -/
import Derived.Test.YtadfhabapgipbaaV19
namespace Go.Proofs.Ytadfhabapgipbaa.V
open Go
set_option linter.unusedVariables false
set_option linter.unusedSimpArgs false

section
variable {E : Env} {l : L} {own : List Blk} {h0 : Heap} {g : Bool}

theorem r_move {x : Operand} {v : Value} (h : OP l g x v) : RV E l own h0 g (.move x) v := fun fr _ _ a _ q => h fr a q
theorem r_assign {x : Operand} {v : Value} (h : OP l g x v) : RV E l own h0 g (.assign x) v := fun fr _ _ a _ q => h fr a q
theorem r_pickb {c a e : Operand} {b y z : Bool} (hc : OP l g c (.bool b)) (ha : OP l (g && b) a (.bool y)) (he : OP l (g && !b) e (.bool z)) :
    RV E l own h0 g (.pick c a e) (.bool (bif b then y else z)) := by
  intro fr h hf ag _ q
  unfold readV; dsimp only
  rw [hc fr ag q]
  cases b
  · exact he fr ag (by rw [q]; rfl)
  · exact ha fr ag (by rw [q]; rfl)
theorem r_pick {c a e : Operand} {b : Bool} {y z : Value} (hc : OP l g c (.bool b)) (ha : OP l (g && b) a y) (he : OP l (g && !b) e z) :
    RV E l own h0 g (.pick c a e) (bif b then y else z) := by
  intro fr h hf ag _ q
  unfold readV; dsimp only
  rw [hc fr ag q]
  cases b
  · exact he fr ag (by rw [q]; rfl)
  · exact ha fr ag (by rw [q]; rfl)
theorem r_bin {op : BinOp} {t t' : TypeId} {x y : Operand} {a b v : Value} (hx : OP l g x a) (hy : OP l g y b) (h : binV E op t a b = some v) : RV E l own h0 g (.binOp op t x y t') v := by
  intro fr h' hf ag _ q
  unfold readV; dsimp only; rw [hx fr ag q, hy fr ag q]; exact h
theorem r_un {op : UnOp} {t : TypeId} {x : Operand} {a v : Value} (hx : OP l g x a) (h : unV op a = some v) : RV E l own h0 g (.unOp op t x) v := by
  intro fr h' hf ag _ q
  unfold readV; dsimp only; rw [hx fr ag q]; exact h
theorem r_conv {s t : TypeId} {x : Operand} {a v : Value} (hx : OP l g x a) (h : convV E s t a = some v) : RV E l own h0 g (.convert s t x) v := by
  intro fr h' hf ag _ q
  unfold readV; dsimp only; rw [hx fr ag q]; exact h
theorem r_fa {s : TypeId} {f : Nat} {x : Operand} {a v : Value} (hx : OP l g x a) (h : fieldAddrV E s a f = some v) : RV E l own h0 g (.fieldAddr s x f) v := by
  intro fr h' hf ag _ q
  unfold readV; dsimp only; rw [hx fr ag q]; exact h
theorem r_field {s : TypeId} {f : Nat} {x : Operand} {a v : Value} (hx : OP l g x a) (h : fieldV E s a f = some v) : RV E l own h0 g (.field s x f) v := by
  intro fr h' hf ag _ q
  unfold readV; dsimp only; rw [hx fr ag q]; exact h
theorem r_extract {i : Nat} {x : Operand} {vs : Array Value} {v : Value} (hx : OP l g x (.tuple vs)) (h : vs[i]? = some v) : RV E l own h0 g (.extract x i) v := by
  intro fr h' hf ag _ q
  unfold readV; dsimp only; rw [hx fr ag q]; exact h
theorem r_build {t : TypeId} {ps : Array (Nat × Operand)} {vs : List (Nat × Value)} {v : Value} (hx : OPp l g ps.toList vs) (h : buildV E t vs = some v) : RV E l own h0 g (.build t ps) v := by
  intro fr h' hf ag _ q
  unfold readV; dsimp only; rw [hx fr ag q]; exact h
theorem r_iface {t : TypeId} {x : Operand} {a : Value} (hx : OP l g x a) (h : notIface E.P t = true) : RV E l own h0 g (.makeInterface t x) (.iface t a) := by
  intro fr h' hf ag _ q
  unfold readV; dsimp only; rw [hx fr ag q, h]; rfl
theorem r_assert {s t : TypeId} {ok : Bool} {x : Operand} {a v : Value} (hx : OP l g x a) (h : assertV E a t ok = some v) : RV E l own h0 g (.typeAssert x s t ok) v := by
  intro fr h' hf ag _ q
  unfold readV; dsimp only; rw [hx fr ag q]; exact h
theorem r_func {f : FuncId} {fi ca : Array Operand} {vs ws : List Value} (h1 : OPs l g fi.toList vs) (h2 : OPs l g ca.toList ws) : RV E l own h0 g (.makeFunc (.func f) fi ca) (.func (.func f) vs.toArray ws.toArray) := by
  intro fr h' hf ag _ q
  unfold readV; dsimp only; rw [h1 fr ag q, h2 fr ag q]; rfl
theorem r_ia {t : TypeId} {x i : Operand} {a b v : Value} (hx : OP l g x a) (hy : OP l g i b) (h : indexAddrV E t a b = some v) : RV E l own h0 g (.indexAddr t x i) v := by
  intro fr h' hf ag _ q
  unfold readV; dsimp only; rw [hx fr ag q, hy fr ag q]; exact h
theorem r_index {t : TypeId} {x i : Operand} {a b v : Value} (hx : OP l g x a) (hy : OP l g i b) (h : indexV E t a b = some v) : RV E l own h0 g (.index t x i) v := by
  intro fr h' hf ag _ q
  unfold readV; dsimp only; rw [hx fr ag q, hy fr ag q]; exact h
theorem r_len {xs : Array Operand} {ts : Array TypeId} {t : TypeId} {a v : Value} (ht : ts[0]? = some t) (hx : OPs l g xs.toList [a]) (h : ∀ hf, Kn h0 hf → lenV E hf t a = some v) :
    RV E l own h0 g (.call ⟨.builtin .len, xs, ts⟩) v := by
  intro fr h' hf ag hs q
  unfold readV; dsimp only; rw [hx fr ag q]; dsimp only; rw [ht]; exact hs.msk.lenV (h hf hs.ext.kn)
theorem r_max {xs : Array Operand} {ts : Array TypeId} {a v : Value} {vs : List Value} (hx : OPs l g xs.toList (a :: vs)) (h : foldV max2V a vs = some v) :
    RV E l own h0 g (.call ⟨.builtin .max, xs, ts⟩) v := by
  intro fr h' hf ag hs q
  unfold readV; dsimp only; rw [hx fr ag q]; exact h
theorem r_min {xs : Array Operand} {ts : Array TypeId} {a v : Value} {vs : List Value} (hx : OPs l g xs.toList (a :: vs)) (h : foldV min2V a vs = some v) :
    RV E l own h0 g (.call ⟨.builtin .min, xs, ts⟩) v := by
  intro fr h' hf ag hs q
  unfold readV; dsimp only; rw [hx fr ag q]; exact h

/-- What lies at an address. -/
def Lo (E : Env) (own : List Blk) (h0 : Heap) (t : TypeId) (a : Addr) (v : Value) : Prop := ∀ h hf, Has own h0 h hf → loadV E h t a = some v
theorem lo_s (i : Nat) {t T : TypeId} {b off : Nat} {cs : List Value} {v : Value} (hi : own[i]? = some ⟨b, .cells cs T⟩) (ht : isAggT E.P t = some false) (hv : cs[off]? = some v) : Lo E own h0 t ⟨b, off, none⟩ v := by
  intro h hf hs
  have := (hs.at_ hi).1
  simp only [loadV, ht, cellAt, this]; exact hv
theorem lo_a (i : Nat) {t T : TypeId} {b off k : Nat} {cs vs : List Value} (hi : own[i]? = some ⟨b, .cells cs T⟩) (ht : isAggT E.P t = some true) (hz : sz E.P t = some k) (hl : Nat.ble (off + k) cs.length = true)
    (hv : (cs.drop off).take k = vs) : Lo E own h0 t ⟨b, off, none⟩ (.agg vs.toArray) := by
  intro h hf hs
  have := (hs.at_ hi).1
  simp only [loadV, ht, hz, cellsAt, this, hl, cond_true, hv]
/-- A whole block. -/
theorem lo_w (i : Nat) {t T : TypeId} {b k : Nat} {cs : List Value} (hi : own[i]? = some ⟨b, .cells cs T⟩) (ht : isAggT E.P t = some true) (hz : sz E.P t = some k) (hl : cs.length = k) : Lo E own h0 t ⟨b, 0, none⟩ (.agg cs.toArray) := by
  intro h hf hs
  have := (hs.at_ hi).1
  have h2 : Nat.ble (0 + k) cs.length = true := by rw [hl, Nat.zero_add]; exact Nat.ble_self_eq_true k
  simp only [loadV, ht, hz, cellsAt, this, h2, cond_true, List.drop_zero]
  rw [← hl, List.take_length]
theorem lo_e {t : TypeId} {a : Addr} {v : Value} (h : ∀ hf, Kn h0 hf → loadV E hf t a = some v) : Lo E own h0 t a v := fun h' hf hs => hs.msk.loadV (h hf hs.ext.kn)
theorem r_load {t : TypeId} {x : Operand} {a : Addr} {v : Value} (hx : OP l g x (.pointer (some a))) (h : Lo E own h0 t a v) : RV E l own h0 g (.load t x) v := by
  intro fr h' hf ag hs q
  unfold readV; dsimp only; rw [hx fr ag q]; exact h h' hf hs
/-- Whatever reads, by the heap without this call's blocks. -/
theorem r_slice {t : TypeId} {x : Operand} {lo hi mx : Option Operand} {a : Value} {o1 o2 o3 : Option Value} {v : Value} (hx : OP l g x a)
    (h1 : ∀ fr, Agree l fr → g = true → evOpt fr lo = some o1) (h2 : ∀ fr, Agree l fr → g = true → evOpt fr hi = some o2) (h3 : ∀ fr, Agree l fr → g = true → evOpt fr mx = some o3)
    (h : ∀ hf, Kn h0 hf → sliceV E hf t a o1 o2 o3 = some v) : RV E l own h0 g (.slice t x lo hi mx) v := by
  intro fr h' hf ag hs q
  unfold readV; dsimp only; rw [hx fr ag q, h1 fr ag q, h2 fr ag q, h3 fr ag q]; exact hs.msk.sliceV (h hf hs.ext.kn)
theorem on {l : L} {g : Bool} : ∀ fr, Agree l fr → g = true → evOpt fr none = some none := fun _ _ _ => rfl
theorem oo {l : L} {g : Bool} {x : Operand} {v : Value} (h : OP l g x v) : ∀ fr, Agree l fr → g = true → evOpt fr (some x) = some (some v) := fun fr a q => by
  simp only [evOpt, h fr a q]
theorem r_lookup {t : TypeId} {m k : Operand} {ok : Bool} {a b v : Value} (hx : OP l g m a) (hy : OP l g k b) (h : ∀ hf, Kn h0 hf → lookupV E hf t a b ok = some v) : RV E l own h0 g (.lookup t m k ok) v := by
  intro fr h' hf ag hs q
  unfold readV; dsimp only; rw [hx fr ag q, hy fr ag q]; exact hs.msk.lookupV (h hf hs.ext.kn)
end

/-! ### Steps that write -/
section
variable {X : Cx} {st : List It} {l : L} {own : List Blk} {h0 : Heap}
variable {r : Array Oper} {os : List Oper} {d : Nat} {ty : TypeId} {pos : String} {aft : Array Edge}

theorem step_op {o : Oper} (hg : o.guard = none) {fr fr' : Fr} {h h' : Heap} {v : Value} {n : Nat}
    (ho : opV X.E (run X.E n) fr h o.op = some (v, h')) (hp : fr.put X.nt o.dst v = some fr') (k : Dn X (.ops r false os :: st) fr' h') : Dn X (.ops r false (o :: os) :: st) fr h := by
  obtain ⟨m, fr2, h2, vs, e1, e2, e3⟩ := k
  refine ⟨max n m, fr2, h2, vs, ?_, e2, e3⟩
  have e1' := exec_le (Nat.le_max_right n m) _ e1
  have ho' := opV_le (run_le (Nat.le_max_left n m)) ho
  have hw : wantedV r fr o = true := by unfold wantedV; rw [hg]
  have : stepIt X.E X.nt (max n m) (.ops r false (o :: os)) fr h = stepIt X.E X.nt (max n m) (.ops r false os) fr' h' := by
    simp only [stepIt, cond_false, runOps, hw, cond_true, ho', hp]
  unfold exec at e1' ⊢
  rw [this]; exact e1'

theorem put_some {nt d : Nat} (hn : Nat.blt d nt = true) (fr : Fr) (v : Value) : Fr.put nt fr (some d) v = some (fr.set d v) := by simp only [Fr.put, hn, cond_true]

theorem g_alloc {t : TypeId} {z : Value} {cs : List Value} (hn : Nat.blt d X.nt = true) (hz : zeroOf X.E.P t = some z) (hc : z.cells.toList = cs)
    (k : ∀ b, Goes X (.ops r false os :: st) ((d, true, .pointer (some ⟨b, 0, none⟩)) :: l) (⟨b, .cells cs t⟩ :: own) h0) :
    Goes X (.ops r false (⟨some d, .alloc t, ty, pos, aft, none⟩ :: os) :: st) l own h0 := by
  intro fr h hf ag hs
  have ho : opV X.E (run X.E 0) fr h (.alloc t) = some (ptrTo h.n, h.alloc (.cells z.cells.toList t)) := by
    simp only [opV, readV, writeV, hz]
  refine step_op rfl ho (put_some hn _ _) ?_
  rw [hc]
  exact k h.n _ _ _ (ag.set d true _) (hs.alloc (.cells cs t))
theorem g_box {t : TypeId} {x : Operand} {v : Value} {cs : List Value} (hn : Nat.blt d X.nt = true) (hx : OP l true x v) (hc : v.cells.toList = cs)
    (k : ∀ b, Goes X (.ops r false os :: st) ((d, true, .pointer (some ⟨b, 0, none⟩)) :: l) (⟨b, .cells cs t⟩ :: own) h0) :
    Goes X (.ops r false (⟨some d, .box t x, ty, pos, aft, none⟩ :: os) :: st) l own h0 := by
  intro fr h hf ag hs
  have ho : opV X.E (run X.E 0) fr h (.box t x) = some (ptrTo h.n, h.alloc (.cells v.cells.toList t)) := by
    simp only [opV, readV, writeV, hx fr ag rfl]
  refine step_op rfl ho (put_some hn _ _) ?_
  rw [hc]
  exact k h.n _ _ _ (ag.set d true _) (hs.alloc (.cells cs t))
theorem g_bslice {t elem : TypeId} {len k : Nat} {ps : Array (Nat × Operand)} {vs : List (Nat × Value)} {z : Value} {cs : List Value} (hn : Nat.blt d X.nt = true) (hx : OPp l true ps.toList vs)
    (hu : X.E.P.underlying t = some (.slice elem)) (hk : sz X.E.P elem = some k) (hz : zeroOf X.E.P elem = some z) (hs : (Nat.ble (len * k) 16777216 && Nat.beq z.cells.size k) = true)
    (hc : fillL (fun i => some (i * k, k)) (repZ z.cells.toList len) vs = some cs)
    (kk : ∀ b, Goes X (.ops r false os :: st) ((d, true, .slice (some ⟨b, 0, none⟩) len len) :: l) (⟨b, .cells cs elem⟩ :: own) h0) :
    Goes X (.ops r false (⟨some d, .buildSlice t len ps, ty, pos, aft, none⟩ :: os) :: st) l own h0 := by
  intro fr h hf ag hs'
  have ho : opV X.E (run X.E 0) fr h (.buildSlice t len ps) = some (.slice (some ⟨h.n, 0, none⟩) len len, h.alloc (.cells cs elem)) := by
    simp only [opV, readV, writeV, hx fr ag rfl, hu, hk, hz, hs, hc, cond_true]
  refine step_op rfl ho (put_some hn _ _) ?_
  exact kk h.n _ _ _ (ag.set d true _) (hs'.alloc (.cells cs elem))
theorem g_store (i : Nat) {t T : TypeId} {a x : Operand} {b off k : Nat} {v : Value} {cs vs : List Value} (ha : OP l true a (.pointer (some ⟨b, off, none⟩))) (hx : OP l true x v)
    (hi : own[i]? = some ⟨b, .cells cs T⟩) (hz : sz X.E.P t = some k) (hv : Nat.beq v.cells.size k = true) (hc : v.cells.toList = vs) (hl : Nat.ble (off + vs.length) cs.length = true) (hk : vs.all cellOk = true)
    {own' : List Blk} (ho' : own.set i ⟨b, .cells (splice cs off vs) T⟩ = own') (kk : Goes X (.ops r false os :: st) l own' h0) :
    Goes X (.ops r false (⟨none, .store t a x, ty, pos, aft, none⟩ :: os) :: st) l own h0 := by
  intro fr h hf ag hs
  obtain ⟨hb, hlim⟩ := hs.at_ hi
  have hlim' : Nat.ble h.lim b = true := Nat.ble_eq_true_of_le hlim
  have ho : opV X.E (run X.E 0) fr h (.store t a x) = some (undef, h.set b (.cells (splice cs off vs) T)) := by
    simp only [opV, readV, writeV, ha fr ag rfl, hx fr ag rfl, storeV, hz, hv, hc, cond_true, storeCells, hb, hlim', hl, hk, Bool.and_self]
  refine step_op rfl ho (show Fr.put X.nt fr none undef = some fr from rfl) ?_
  subst ho'
  exact kk _ _ _ ag (hs.store hi _)

/-- A call of a function that changes nothing that was there. -/
theorem g_call {dst : Option Nat} {f : Operand} {xs : Array Operand} {ts : Array TypeId} {gf : FuncId} {fi ca : Array Value} {vs : List Value} {Q : Value → Heap → Prop}
    (hF : FramedE X.E) (hn : ∀ d, dst = some d → Nat.blt d X.nt = true) (hf' : OP l true f (.func (.func gf) fi ca)) (hx : OPs l true xs.toList vs) (hb : hasBody X.E.P gf = true)
    (hs : ∀ hf, Kn h0 hf → Wf hf → Ev X.E gf (fi.toList ++ (vs ++ ca.toList)) hf Q)
    (kk : ∀ v h1, HExt h0 h1 → Wf h1 → Q v h1 → Goes X (.ops r false os :: st) (match dst with | some d => (d, true, v) :: l | none => l) own h1) :
    Goes X (.ops r false (⟨dst, .call ⟨.value f, xs, ts⟩, ty, pos, aft, none⟩ :: os) :: st) l own h0 := by
  intro fr h hf ag hs'
  obtain ⟨n, v, hf1, hr, he, hq⟩ := hs hf hs'.ext.kn hs'.wf
  obtain ⟨h1, hr1, m1, k1⟩ := run_msk hF n (inOwn own) hf h gf _ v hf1 hs'.msk hr
  have hw1 := he.wf hs'.wf
  have ho : opV X.E (run X.E n) fr h (.call ⟨.value f, xs, ts⟩) = some (v, h1) := by
    simp only [opV, readV, writeV, calleeV, hf' fr ag rfl, hx fr ag rfl, hb, cond_true]
    exact hr1
  have hl : h1.lim = h.lim := by rw [m1.lim, he.lim, hs'.msk.lim]
  have hh := hs'.keep k1 m1 (HExt.refl hf1) hw1 hl
  cases dst with
  | none => exact step_op rfl ho rfl (kk v hf1 (hs'.ext.trans he) hw1 hq _ _ _ ag hh)
  | some d => exact step_op rfl ho (put_some (hn d rfl) _ _) (kk v hf1 (hs'.ext.trans he) hw1 hq _ _ _ (ag.set d true v) hh)

/-- A call of a function that changes nothing that was there, and tells what is known. -/
theorem step_callp {q : Bool} {o : Oper} {g : Bool} {f : Operand} {xs : Array Operand} {ts : Array TypeId} {gf : FuncId} {fi ca : Array Value} {vs : List Value} {v : Value}
    (hF : FramedE X.E) (hd : o.dst = some d) (hn : Nat.blt d X.nt = true) (hw : ∀ fr, Agree l fr → wantedV r fr o = g) (hop : o.op = .call ⟨.value f, xs, ts⟩)
    (hf' : OP l g f (.func (.func gf) fi ca)) (hx : OPs l g xs.toList vs) (hb : hasBody X.E.P gf = true) (hp : q = true → plainN 4 v = true)
    (hs : ∀ hf, Kn h0 hf → Wf hf → g = true → Ev X.E gf (fi.toList ++ (vs ++ ca.toList)) hf (fun w _ => w = v))
    (kk : Goes X (.ops r q os :: st) ((d, g, v) :: l) own h0) : Goes X (.ops r q (o :: os) :: st) l own h0 := by
  intro fr h hf ag hs'
  cases g with
  | false =>
    refine Dn.of_eq (fun n => ?_) (kk _ h hf (ag.set d false v) hs')
    simp only [exec, stepIt]
    cases q with
    | true => simp only [cond_true, runQuiet, hw fr ag, cond_false, Fr.put, hd, hn]
    | false => simp only [cond_false, runOps, hw fr ag, Fr.put, hd, hn, cond_true]
  | true =>
    cases q with
    | false =>
      obtain ⟨n, v', hf1, hr, he, hq⟩ := hs hf hs'.ext.kn hs'.wf rfl
      subst hq
      obtain ⟨h1, hr1, m1, k1⟩ := run_msk hF n (inOwn own) hf h gf _ v' hf1 hs'.msk hr
      have hw1 := he.wf hs'.wf
      have ho : opV X.E (run X.E n) fr h o.op = some (v', h1) := by
        rw [hop]
        simp only [opV, readV, writeV, calleeV, hf' fr ag rfl, hx fr ag rfl, hb, cond_true]
        exact hr1
      have hl : h1.lim = h.lim := by rw [m1.lim, he.lim, hs'.msk.lim]
      obtain ⟨m, fr2, h2, rs, e1, e2, e3⟩ := kk _ _ _ (ag.set d true v') (hs'.keep k1 m1 (hs'.ext.trans he) hw1 hl)
      refine ⟨max n m, fr2, h2, rs, ?_, e2, e3⟩
      have e1' := exec_le (Nat.le_max_right n m) _ e1
      have ho' := opV_le (run_le (Nat.le_max_left n m)) ho
      have : stepIt X.E X.nt (max n m) (.ops r false (o :: os)) fr h = stepIt X.E X.nt (max n m) (.ops r false os) (fr.set d v') h1 := by
        simp only [stepIt, cond_false, runOps, hw fr ag, cond_true, ho', hd, put_some hn]
      unfold exec at e1' ⊢
      rw [this]; exact e1'
    | true =>
      obtain ⟨n, v', hf1, hr, he, hq⟩ := hs { hf with lim := hf.n } (hs'.ext.kn.limN _) hs'.wf.limN rfl
      subst hq
      obtain ⟨h1, hr1, m1, k1⟩ := run_msk hF n (inOwn own) { hf with lim := hf.n } { h with lim := h.n } gf _ v' hf1 hs'.msk.limN hr
      have ho : quietV X.E (run X.E n) fr h o.op = some v' := by
        rw [hop]
        simp only [quietV, readV, calleeV, hf' fr ag rfl, hx fr ag rfl, hb, cond_true, hr1, hp rfl]
      obtain ⟨m, fr2, h2, rs, e1, e2, e3⟩ := kk _ _ _ (ag.set d true v') hs'
      refine ⟨max n m, fr2, h2, rs, ?_, e2, e3⟩
      have e1' := exec_le (Nat.le_max_right n m) _ e1
      have ho' := quietV_le (run_le (Nat.le_max_left n m)) ho
      have : stepIt X.E X.nt (max n m) (.ops r true (o :: os)) fr h = stepIt X.E X.nt (max n m) (.ops r true os) (fr.set d v') h := by
        simp only [stepIt, cond_true, runQuiet, hw fr ag, ho', hd, put_some hn]
      unfold exec at e1' ⊢
      rw [this]; exact e1'

theorem g_callp {q : Bool} {f : Operand} {xs : Array Operand} {ts : Array TypeId} {gf : FuncId} {fi ca : Array Value} {vs : List Value} {v : Value}
    (hF : FramedE X.E) (hn : Nat.blt d X.nt = true) (hf' : OP l true f (.func (.func gf) fi ca)) (hx : OPs l true xs.toList vs) (hb : hasBody X.E.P gf = true) (hp : q = true → plainN 4 v = true)
    (hs : ∀ hf, Kn h0 hf → Wf hf → Ev X.E gf (fi.toList ++ (vs ++ ca.toList)) hf (fun w _ => w = v))
    (kk : Goes X (.ops r q os :: st) ((d, true, v) :: l) own h0) : Goes X (.ops r q (⟨some d, .call ⟨.value f, xs, ts⟩, ty, pos, aft, none⟩ :: os) :: st) l own h0 :=
  step_callp hF rfl hn (fun fr _ => rfl) rfl hf' hx hb hp (fun hf k w _ => hs hf k w) kk
theorem g_callt {q : Bool} {j dj : Nat} {f : Operand} {xs : Array Operand} {ts : Array TypeId} {gf : FuncId} {fi ca : Array Value} {vs : List Value} {v : Value} {b : Bool}
    (hF : FramedE X.E) (hn : Nat.blt d X.nt = true) {oj : Oper} (hj : r[j]? = some oj) (hd : oj.dst = some dj) (hl : lk l dj = some (true, .bool b))
    (hf' : OP l b f (.func (.func gf) fi ca)) (hx : OPs l b xs.toList vs) (hb : hasBody X.E.P gf = true) (hp : q = true → plainN 4 v = true)
    (hs : ∀ hf, Kn h0 hf → Wf hf → b = true → Ev X.E gf (fi.toList ++ (vs ++ ca.toList)) hf (fun w _ => w = v))
    (kk : Goes X (.ops r q os :: st) ((d, b, v) :: l) own h0) : Goes X (.ops r q (⟨some d, .call ⟨.value f, xs, ts⟩, ty, pos, aft, some (j, true)⟩ :: os) :: st) l own h0 :=
  step_callp hF rfl hn (fun fr a => by rw [wanted_t rfl hj hd hl fr a]; cases b <;> rfl) rfl hf' hx hb hp hs kk
theorem g_callf {q : Bool} {j dj : Nat} {f : Operand} {xs : Array Operand} {ts : Array TypeId} {gf : FuncId} {fi ca : Array Value} {vs : List Value} {v : Value} {b : Bool}
    (hF : FramedE X.E) (hn : Nat.blt d X.nt = true) {oj : Oper} (hj : r[j]? = some oj) (hd : oj.dst = some dj) (hl : lk l dj = some (true, .bool b))
    (hf' : OP l (!b) f (.func (.func gf) fi ca)) (hx : OPs l (!b) xs.toList vs) (hb : hasBody X.E.P gf = true) (hp : q = true → plainN 4 v = true)
    (hs : ∀ hf, Kn h0 hf → Wf hf → b = false → Ev X.E gf (fi.toList ++ (vs ++ ca.toList)) hf (fun w _ => w = v))
    (kk : Goes X (.ops r q os :: st) ((d, !b, v) :: l) own h0) : Goes X (.ops r q (⟨some d, .call ⟨.value f, xs, ts⟩, ty, pos, aft, some (j, false)⟩ :: os) :: st) l own h0 :=
  step_callp hF rfl hn (fun fr a => by rw [wanted_t rfl hj hd hl fr a]; cases b <;> rfl) rfl hf' hx hb hp (fun hf k w e => hs hf k w (by simpa using e)) kk

/-- What a call tells. -/
def RS (X : Cx) (l : L) (own : List Blk) (h0 : Heap) (rs : List ResultVar) (vs : List Value) : Prop := ∀ fr h hf, Agree l fr → Has own h0 h hf → resultsV X.E fr h rs = some vs
theorem rs0 : RS X l own h0 [] [] := fun _ _ _ _ _ => rfl
theorem rst {t : Nat} {v : Value} {rs : List ResultVar} {vs : List Value} (h : lk l t = some (true, v)) (k : RS X l own h0 rs vs) : RS X l own h0 (.tmp t :: rs) (v :: vs) := fun fr h' hf a hs => by
  simp only [resultsV, resultV, a.at h, cond_true, k fr h' hf a hs]
theorem rsc {a t : Nat} {p : Addr} {v : Value} {rs : List ResultVar} {vs : List Value} (h : lk l a = some (true, .pointer (some p))) (hv : Lo X.E own h0 t p v) (k : RS X l own h0 rs vs) : RS X l own h0 (.cell a t :: rs) (v :: vs) := fun fr h' hf ag hs => by
  simp only [resultsV, resultV, ag.at h, cond_true, hv h' hf hs, k fr h' hf ag hs]

theorem g_ret {vs : List Value} (h : RS X l own h0 X.res vs) (hq : ∀ h1 hf, Has own h0 h1 hf → X.Q (packV vs) h1) : Goes X (.code .ret :: st) l own h0 := by
  intro fr h1 hf ag hs
  refine ⟨0, fr, h1, vs, ?_, h fr h1 hf ag hs, hq h1 hf hs⟩
  unfold exec
  show exec X.E X.nt 0 st .ret fr h1 = _
  exact exec_ret _ _ _ _ _ _
theorem g_end {vs : List Value} (h : RS X l own h0 X.res vs) (hq : ∀ h1 hf, Has own h0 h1 hf → X.Q (packV vs) h1) : Goes X [] l own h0 := by
  intro fr h1 hf ag hs
  exact ⟨0, fr, h1, vs, rfl, h fr h1 hf ag hs, hq h1 hf hs⟩
theorem g_cond {c : Operand} {a e : Code} {b : Bool} (hc : OP l true c (.bool b)) (ht : b = true → Goes X (.code a :: st) l own h0) (hf : b = false → Goes X (.code e :: st) l own h0) :
    Goes X (.code (.cond c a e) :: st) l own h0 := by
  intro fr h hf' ag hs
  cases b with
  | true =>
    refine Dn.of_eq (fun n => ?_) (ht rfl fr h hf' ag hs)
    simp only [exec, stepIt, evalC, hc fr ag rfl]
  | false =>
    refine Dn.of_eq (fun n => ?_) (hf rfl fr h hf' ag hs)
    simp only [exec, stepIt, evalC, hc fr ag rfl]
end

/-! ### A function's contract -/
def initL : List Value → Nat → L → L
  | [], _, l => l
  | v :: r, i, l => initL r (i + 1) ((i, true, v) :: l)
theorem initL_agree : ∀ (vs : List Value) (i : Nat) (l : L) (fr : Fr), Agree l fr → Agree (initL vs i l) (initF vs i fr) := by
  intro vs
  induction vs with
  | nil => intro i l fr a; exact a
  | cons v r ih => intro i l fr a; exact ih (i + 1) _ _ (a.set i true v)

theorem ev_of {E : Env} {f : FuncId} {args : List Value} {h : Heap} {Q : Value → Heap → Prop} (hw : Wf h) {fn : Func} {c : Code} (hp : E.prim f = none) (hf : E.P.funcs[f]? = some fn) (hc : fn.body = some c) (hn : Nat.ble args.length fn.ntmps = true)
    (g : Goes ⟨E, fn.ntmps, fn.results.toList, fun v h' => HExt h h' ∧ Q v h'⟩ [.code c] (initL args 0 []) [] h) : Ev E f args h Q := by
  obtain ⟨n, fr', h', vs, e1, e2, e3⟩ := g (initF args 0 .nil) h h (initL_agree _ _ _ _ (Agree.nil _)) (Has.nil hw)
  refine ⟨n + 1, packV vs, h', ?_, e3⟩
  rw [run_step hp hf hc, hn, cond_true]
  unfold exec at e1
  split at e1
  · rename_i x fr1 h1 e
    have e' : evalC E fn.ntmps (run E n) n c (initF args 0 .nil) h = some (x, fr1, h1) := e
    rw [e']
    cases x with
    | exit i => cases e1
    | normal => cases e1; dsimp only; rw [e2]
    | ret => cases e1; dsimp only; rw [e2]
  · cases e1
end Go.Proofs.Ytadfhabapgipbaa.V
