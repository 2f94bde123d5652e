/- Regions that draw their order and write: what one order does, every order does.
   No condition: these are laws of the clean machine. -/
import Derived.Test.YtadfhabapgipbaaVm
namespace Go.Proofs.Ytadfhabapgipbaa.V
open Go
set_option linter.unusedVariables false
set_option linter.unusedSimpArgs false

/-! ### What an operation looks at -/
def Agr (l : List Tmp) (fr fr2 : Fr) : Prop := ∀ t ∈ l, fr.at t = fr2.at t
def AgrO (l : List Operand) (fr fr2 : Fr) : Prop := ∀ x ∈ l, ev fr x = ev fr2 x

theorem AgrO.cons {x : Operand} {l : List Operand} {fr fr2 : Fr} (h : AgrO (x :: l) fr fr2) : ev fr x = ev fr2 x ∧ AgrO l fr fr2 :=
  ⟨h x List.mem_cons_self, fun y hy => h y (List.mem_cons_of_mem _ hy)⟩

theorem evs_congr {fr fr2 : Fr} : ∀ {l : List Operand}, AgrO l fr fr2 → evs fr l = evs fr2 l
  | [], _ => rfl
  | x :: r, h => by simp only [evs, h.cons.1, evs_congr h.cons.2]
theorem evParts_congr {fr fr2 : Fr} : ∀ {l : List (Nat × Operand)}, AgrO (l.map (·.2)) fr fr2 → evParts fr l = evParts fr2 l
  | [], _ => rfl
  | (i, x) :: r, h => by
    have h : AgrO (x :: r.map (·.2)) fr fr2 := h
    simp only [evParts, h.cons.1, evParts_congr h.cons.2]
theorem evOpt_congr {fr fr2 : Fr} {x : Option Operand} (h : ∀ y, x = some y → ev fr y = ev fr2 y) : evOpt fr x = evOpt fr2 x := by
  cases x with
  | none => rfl
  | some y => simp only [evOpt, h y rfl]

theorem ev_agr {fr fr2 : Fr} {x : Operand} (h : ∀ t, x = .tmp t → fr.at t = fr2.at t) : ev fr x = ev fr2 x := by
  cases x <;> simp only [ev]
  rw [h _ rfl]

theorem agrO_of {ops : Array Oper} {o : Oper} {fr fr2 : Fr} (h : Agr (o.looksAt ops) fr fr2) : AgrO o.op.operands.toList fr fr2 :=
  fun x hx => ev_agr fun t ht => h t (List.mem_append_left _ (List.mem_filterMap.2 ⟨x, hx, by rw [ht]⟩))

theorem wantedV_congr {ops : Array Oper} {o : Oper} {fr fr2 : Fr} (h : Agr (o.looksAt ops) fr fr2) : wantedV ops fr o = wantedV ops fr2 o := by
  unfold wantedV
  cases hg : o.guard with
  | none => rfl
  | some gw =>
    obtain ⟨g, want⟩ := gw
    dsimp only
    cases ho : ops[g]? with
    | none => rfl
    | some oj =>
      dsimp only
      cases hd : oj.dst with
      | none => rfl
      | some d =>
        dsimp only
        rw [h d (by simp [Oper.looksAt, hg, ho, hd])]

theorem readV_congr {E : Env} {fr fr2 : Fr} {h : Heap} {op : Op} (a : AgrO op.operands.toList fr fr2) : readV E fr h op = readV E fr2 h op := by
  cases op <;> simp only [Op.operands] at a <;> simp only [readV]
  case build t ps => rw [evParts_congr (l := ps.toList) (by simpa using a)]
  case makeFunc fn first cap =>
    rw [evs_congr (l := first.toList) fun x hx => a x (by simp at hx ⊢; exact .inl hx), evs_congr (l := cap.toList) fun x hx => a x (by simp at hx ⊢; exact .inr hx)]
  case slice t x lo hi mx =>
    rw [a x (by simp), evOpt_congr (x := lo) fun y hy => a y (by simp [hy]), evOpt_congr (x := hi) fun y hy => a y (by simp [hy]), evOpt_congr (x := mx) fun y hy => a y (by simp [hy])]
  case call c => rw [evs_congr (l := c.args.toList) fun x hx => a x (by simp [Call.operands] at hx ⊢; cases c.callee <;> simp [hx])]
  all_goals first
    | rfl
    | (have a1 := a _ (by simp; done); rw [a1]; done)
    | (obtain ⟨a1, a⟩ := a.cons; rw [a1]; done)
    | (obtain ⟨a1, a⟩ := a.cons; obtain ⟨a2, a⟩ := a.cons; rw [a1, a2]; done)
    | (obtain ⟨a1, a⟩ := a.cons; obtain ⟨a2, a⟩ := a.cons; obtain ⟨a3, a⟩ := a.cons; rw [a1, a2, a3]; done)

theorem writeV_congr {E : Env} {fr fr2 : Fr} {h : Heap} {op : Op} (a : AgrO op.operands.toList fr fr2) : writeV E fr h op = writeV E fr2 h op := by
  cases op <;> simp only [Op.operands] at a <;> simp only [writeV]
  case buildSlice t n ps => rw [evParts_congr (l := ps.toList) (by simpa using a)]
  case call c => rw [evs_congr (l := c.args.toList) fun x hx => a x (by simp [Call.operands] at hx ⊢; cases c.callee <;> simp [hx])]
  all_goals first
    | rfl
    | (obtain ⟨a1, a⟩ := a.cons; rw [a1]; done)
    | (obtain ⟨a1, a⟩ := a.cons; obtain ⟨a2, a⟩ := a.cons; rw [a1, a2]; done)
    | (obtain ⟨a1, a⟩ := a.cons; obtain ⟨a2, a⟩ := a.cons; obtain ⟨a3, a⟩ := a.cons; rw [a1, a2, a3]; done)

theorem calleeV_congr {E : Env} {fr fr2 : Fr} {op : Op} (a : AgrO op.operands.toList fr fr2) : calleeV E fr op = calleeV E fr2 op := by
  cases op <;> simp only [Op.operands] at a <;> simp only [calleeV]
  case call c =>
    rw [evs_congr (l := c.args.toList) fun x hx => a x (by simp [Call.operands] at hx ⊢; cases c.callee <;> simp [hx])]
    cases hc : c.callee with
    | value f => simp only [a f (by simp [Call.operands, hc])]
    | invoke r m => simp only [a r (by simp [Call.operands, hc])]
    | builtin b => rfl

theorem opV_congr {E : Env} {call : FuncId → List Value → Heap → Option (Value × Heap)} {fr fr2 : Fr} {h : Heap} {op : Op} (a : AgrO op.operands.toList fr fr2) : opV E call fr h op = opV E call fr2 h op := by
  simp only [opV, readV_congr a, writeV_congr a, calleeV_congr a]

theorem readK_op {E : Env} {call : FuncId → List Value → Heap → Option (Value × Heap)} {fr : Fr} {h : Heap} {op : Op} (k : readK op = true) {r : Value × Heap} (e : opV E call fr h op = some r) : readV E fr h op = some r.1 ∧ r.2 = h := by
  unfold opV at e
  split at e
  · rename_i v hv; cases e; exact ⟨hv, rfl⟩
  · exfalso
    cases op <;> simp only [readK] at k <;> first | (cases k; done) | skip
    case call c =>
      split at k <;> rename_i hc <;> first | (cases k; done) | simp [writeV, calleeV, hc] at e
    all_goals simp [writeV, calleeV] at e
theorem op_readK {E : Env} {call : FuncId → List Value → Heap → Option (Value × Heap)} {fr : Fr} {h : Heap} {op : Op} {v : Value} (e : readV E fr h op = some v) : opV E call fr h op = some (v, h) := by
  unfold opV; rw [e]

theorem heapK_readK {op : Op} (h : heapK op = true) : readK op = true := by
  cases op <;> simp only [heapK] at h <;> first | (cases h; done) | skip
  case call c => split at h <;> rename_i hc <;> first | (cases h; done) | simp [readK, hc]
  all_goals rfl
theorem readV_noheap {E : Env} {fr : Fr} {h h2 : Heap} {op : Op} (k : readK op = true) (n : heapK op = false) : readV E fr h op = readV E fr h2 op := by
  cases op <;> simp only [readK, heapK] at k n <;> first | (cases k; done) | (cases n; done) | skip
  case call c => split at k <;> rename_i hc <;> first | (cases k; done) | (simp [hc] at n; done) | simp [readV, hc]
  all_goals rfl

/-! ### The same value -/
theorem all_zip {f : Value → Value → Bool} (hf : ∀ a b, f a b = true → a = b) : ∀ (l l' : List Value), l.length = l'.length → (List.zipWith f l l').all id = true → l = l'
  | [], [], _, _ => rfl
  | [], _ :: _, h, _ => by cases h
  | _ :: _, [], h, _ => by cases h
  | a :: l, b :: l', h, k => by
    simp only [List.zipWith_cons_cons, List.all_cons, id, Bool.and_eq_true] at k
    rw [hf a b k.1, all_zip hf l l' (by simpa using h) k.2]

theorem veqN_eq : ∀ (n : Nat) (a b : Value), veqN n a b = true → a = b := by
  intro n
  induction n with
  | zero =>
    intro a b h
    cases a <;> cases b <;> simp only [veqN] at h <;> first | (cases h; done) | skip
    case string s s' => rw [bytes_beq _ _ h]
    all_goals (try simp at h)
    all_goals first | rfl | (simp [h]; done) | (obtain ⟨h1, h2⟩ := h; simp [h1, h2]; done)
  | succ n ih =>
    intro a b h
    have arr : ∀ x y : Array Value, (Nat.beq x.size y.size && (List.zipWith (veqN n) x.toList y.toList).all id) = true → x = y := by
      intro x y hxy
      simp only [Bool.and_eq_true] at hxy
      exact Array.toList_inj.1 (all_zip ih _ _ (by simpa using Nat.eq_of_beq_eq_true hxy.1) hxy.2)
    cases a <;> cases b <;> simp only [veqN] at h <;> first | (cases h; done) | skip
    case func f x c f' x' c' =>
      simp only [Bool.and_eq_true, decide_eq_true_eq] at h
      obtain ⟨⟨h1, h2⟩, h3⟩ := h
      rw [h1, arr x x' (by simpa using h2), arr c c' (by simpa using h3)]
    case iface t v t' v' =>
      simp only [Bool.and_eq_true] at h
      rw [Nat.eq_of_beq_eq_true h.1, ih _ _ h.2]
    case agg x y => rw [arr x y h]
    case tuple x y => rw [arr x y h]
    case string s s' => rw [bytes_beq _ _ h]
    all_goals (try simp at h)
    all_goals first | rfl | (simp [h]; done) | (obtain ⟨h1, h2⟩ := h; simp [h1, h2]; done)

theorem same_some {a b : Option Value} (h : same a b = true) {v : Value} (ha : a = some v) : b = some v := by
  subst ha
  cases b with
  | none => simp [same] at h
  | some w => simp only [same] at h; rw [veqN_eq _ _ _ h]

end Go.Proofs.Ytadfhabapgipbaa.V
