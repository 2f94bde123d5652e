/- The clean machine's reading operations do what the model's do (the rest).
   Conditions: the clean operation yields a value, and heap and frame stand as V2 says; of struct types that are compared: EqOK. -/
import Derived.Test.YtadfhabapgipbaaV3
namespace Go.Proofs.Ytadfhabapgipbaa.V
open Go
set_option linter.unusedVariables false
set_option linter.unusedSimpArgs false

theorem eq_run {P : Program} {w : World} {t : TypeId} {x y : Value} {r : Bool} (h : ∀ n, (Op.equalIn (n + 1) t x y).run P w = .ok r w) : (Op.equal t x y).run P w = .ok r w := h 9999

theorem intBin_ok {P : Program} {op : BinOp} {k : IntKind} {a b : Int} {v : Value} (h : intBin op k a b = some v) (t : TypeId) (X Y : Operand) (β : Inj) :
    VR β v v ∧ ∀ w, (do eqGuard op t X Y (.int k a) (.int k b); binOp op t (.int k a) (.int k b)).run P w = .ok v w := by
  cases op <;> simp only [intBin] at h <;> try (cases h; done)
  case quo =>
    split at h
    · cases h
    · rename_i hb; cases h; exact ⟨.int _ _, fun w => by simp [eqGuard, binOp, Op.intDiv, hb]⟩
  case rem =>
    split at h
    · cases h
    · rename_i hb; cases h; exact ⟨.int _ _, fun w => by simp [eqGuard, binOp, Op.intDiv, hb]⟩
  all_goals (cases h; refine ⟨by constructor, fun w => ?_⟩)
  all_goals first
    | (simp [eqGuard, binOp, Op.intArith]; done)
    | (simp [eqGuard, binOp, Op.intBits]; done)
    | (simp [eqGuard, binOp, Op.intCmp]; done)

theorem strBin_ok {P : Program} {op : BinOp} {a b : ByteArray} {v : Value} (h : strBin op a b = some v) (t : TypeId) (X Y : Operand) (β : Inj) :
    VR β v v ∧ ∀ w, (do eqGuard op t X Y (.string a) (.string b); binOp op t (.string a) (.string b)).run P w = .ok v w := by
  cases op <;> simp only [strBin] at h <;> try (cases h; done)
  case add =>
    split at h
    · rename_i hb; cases h
      refine ⟨.string _, fun w => ?_⟩
      have : ¬ ((a.size + b.size : Nat) : Int) > IntKind.i64.max := by
        have : IntKind.i64.max = 9223372036854775807 := by decide
        rw [this]; omega
      simp only [eqGuard, binOp, Op.stringOp, Sem.run_bind]
      rw [if_neg this]; rfl
    · cases h
  all_goals (cases h; refine ⟨by constructor, fun w => ?_⟩)
  all_goals simp [eqGuard, binOp, Op.stringOp]

section
variable {P : Program} {w : World} {t : TypeId}
theorem eq_bool (hu : P.underlying t = some .bool) (a b : Bool) : (Op.equal t (.bool a) (.bool b)).run P w = .ok (a == b) w := eq_run fun n => by simp [Op.equalIn, r_underlying hu]
theorem eq_ptr0 {e : TypeId} (hu : P.underlying t = some (.pointer e)) (b : Option Addr) : (Op.equal t (.pointer none) (.pointer b)).run P w = .ok b.isNone w := eq_run fun n => by simp [Op.equalIn, r_underlying hu]
theorem eq_ptr1 {e : TypeId} (hu : P.underlying t = some (.pointer e)) (a : Addr) : (Op.equal t (.pointer (some a)) (.pointer none)).run P w = .ok false w := eq_run fun n => by simp [Op.equalIn, r_underlying hu]
theorem eq_sl0 {e : TypeId} (hu : P.underlying t = some (.slice e)) (b : Option Addr) (l c m d : Nat) : (Op.equal t (.slice none l c) (.slice b m d)).run P w = .ok b.isNone w := eq_run fun n => by simp [Op.equalIn, r_underlying hu]
theorem eq_sl1 {e : TypeId} (hu : P.underlying t = some (.slice e)) (a : Addr) (l c m d : Nat) : (Op.equal t (.slice (some a) l c) (.slice none m d)).run P w = .ok false w := eq_run fun n => by simp [Op.equalIn, r_underlying hu]
theorem eq_map0 {k e : TypeId} (hu : P.underlying t = some (.map k e)) (b : Option Nat) : (Op.equal t (.map none) (.map b)).run P w = .ok b.isNone w := eq_run fun n => by simp [Op.equalIn, r_underlying hu]
theorem eq_map1 {k e : TypeId} (hu : P.underlying t = some (.map k e)) (b : Nat) : (Op.equal t (.map (some b)) (.map none)).run P w = .ok false w := eq_run fun n => by simp [Op.equalIn, r_underlying hu]
theorem eq_fn0 {a b : Array TypeId} {c : Bool} (hu : P.underlying t = some (.func a b c)) : (Op.equal t .nilFunc .nilFunc).run P w = .ok true w := eq_run fun n => by simp [Op.equalIn, r_underlying hu]
theorem eq_fn1 {a b : Array TypeId} {c : Bool} (hu : P.underlying t = some (.func a b c)) (f : Fn) (x y : Array Value) : (Op.equal t .nilFunc (.func f x y)).run P w = .ok false w := eq_run fun n => by simp [Op.equalIn, r_underlying hu]
theorem eq_fn2 {a b : Array TypeId} {c : Bool} (hu : P.underlying t = some (.func a b c)) (f : Fn) (x y : Array Value) : (Op.equal t (.func f x y) .nilFunc).run P w = .ok false w := eq_run fun n => by simp [Op.equalIn, r_underlying hu]
theorem eq_both {x y : Value} {b : Bool} {X Y : Operand} (g1 : (eqGuard .eql t X Y x y).run P w = .ok () w) (g2 : (eqGuard .neq t X Y x y).run P w = .ok () w) (e : (Op.equal t x y).run P w = .ok b w)
    (b1 : binOp .eql t x y = (do pure (.bool (← Op.equal t x y)))) (b2 : binOp .neq t x y = (do pure (.bool (!(← Op.equal t x y))))) :
    (do eqGuard .eql t X Y x y; binOp .eql t x y).run P w = .ok (.bool b) w ∧ (do eqGuard .neq t X Y x y; binOp .neq t x y).run P w = .ok (.bool (!b)) w := by
  constructor
  · rw [b1]; simp only [Sem.run_bind, g1, Result.andThen_ok, e]; rfl
  · rw [b2]; simp only [Sem.run_bind, g2, Result.andThen_ok, e]; rfl
end

theorem ckEq_vr {β : Inj} {k : CK} {x y x' y' : Value} {c : Bool} (hx : VR β x x') (hy : VR β y y') (h : ckEq k x y = some c) : ckEq k x' y' = some c := by
  cases hx <;> cases hy <;> first | exact h | (cases k <;> simp [ckEq] at h)

theorem ckAll_vr {β : Inj} : ∀ (ks : List CK) (l m l' m' : List Value) (b : Bool), VRs β l l' → VRs β m m' → ckAll ks l m = some b → ckAll ks l' m' = some b := by
  intro ks
  induction ks with
  | nil =>
    intro l m l' m' b h1 h2 h
    cases h1 with
    | nil => cases h2 with
      | nil => exact h
      | cons _ _ => simp [ckAll] at h
    | cons _ _ => simp [ckAll] at h
  | cons k ks ih =>
    intro l m l' m' b h1 h2 h
    cases h1 with
    | nil => simp [ckAll] at h
    | cons u1 r1 => cases h2 with
      | nil => simp [ckAll] at h
      | cons u2 r2 =>
        simp only [ckAll] at h ⊢
        split at h
        · rename_i c hc
          split at h
          · rename_i r hr
            rw [ckEq_vr u1 u2 hc, ih _ _ _ _ _ r1 r2 hr]; exact h
          · cases h
        · cases h

theorem eqV_ok {E : Env} (hE : EqOK E) {t : TypeId} {x y x' y' : Value} {b : Bool} {β : Inj} (hx : VR β x x') (hy : VR β y y') (h : eqV E t x y = some b) (X Y : Operand) (w : World) :
    (do eqGuard .eql t X Y x' y'; binOp .eql t x' y').run E.P w = .ok (.bool b) w ∧ (do eqGuard .neq t X Y x' y'; binOp .neq t x' y').run E.P w = .ok (.bool (!b)) w := by
  unfold eqV at h
  split at h
  all_goals try (cases h; done)
  case h_11 =>
    rename_i fs xs ys hu
    split at h
    · rename_i ks hk
      cases hx with | @agg _ xs' hx => ?_
      cases hy with | @agg _ ys' hy => ?_
      have h' := ckAll_vr _ _ _ _ _ _ hx hy h
      obtain ⟨g1, g2, g3⟩ := hE t ks hk xs' ys' b X Y h' w
      exact eq_both g1 g2 g3 rfl rfl
    · cases h
  all_goals (
    rename_i hu
    cases h
    cases hx <;> cases hy <;> refine eq_both (by simp [eqGuard]) (by simp [eqGuard]) ?_ rfl rfl <;> first
      | exact eq_bool hu _ _ | exact eq_ptr0 hu _ | exact eq_ptr1 hu _ | exact eq_sl0 hu _ _ _ _ _ | exact eq_sl1 hu _ _ _ _ _ | exact eq_map0 hu _ | exact eq_map1 hu _
      | exact eq_fn0 hu | exact eq_fn1 hu _ _ _ | exact eq_fn2 hu _ _ _)


theorem binV_ok {E : Env} (hE : EqOK E) {op : BinOp} {t : TypeId} {x y x' y' v : Value} {β : Inj} (hx : VR β x x') (hy : VR β y y') (h : binV E op t x y = some v) (X Y : Operand) :
    VR β v v ∧ ∀ w, (do eqGuard op t X Y x' y'; binOp op t x' y').run E.P w = .ok v w := by
  unfold binV at h
  split at h
  · rename_i k a k' b
    cases hx; cases hy
    split at h
    · split at h
      · cases h
      · rename_i hb; cases h; exact ⟨.int _ _, fun w => by simp [eqGuard, binOp, Op.shift, hb]⟩
    · split at h
      · cases h
      · rename_i hb; cases h; exact ⟨.int _ _, fun w => by simp [eqGuard, binOp, Op.shift, hb]⟩
    · split at h
      · rename_i hk; subst hk; exact intBin_ok h t X Y β
      · cases h
  · cases hx; cases hy
    exact strBin_ok h t X Y β
  · split at h
    · split at h
      · rename_i b hb; cases h; exact ⟨.bool _, fun w => (eqV_ok hE hx hy hb X Y w).1⟩
      · cases h
    · split at h
      · rename_i b hb; cases h; exact ⟨.bool _, fun w => (eqV_ok hE hx hy hb X Y w).2⟩
      · cases h
    · cases h

theorem unV_ok {P : Program} {op : UnOp} {x x' v : Value} {β : Inj} (hx : VR β x x') (h : unV op x = some v) : VR β v v ∧ ∀ w, (Op.unary op x').run P w = .ok v w := by
  unfold unV at h
  split at h
  · cases hx; cases h; exact ⟨.int _ _, fun w => rfl⟩
  · cases hx; cases h; exact ⟨.bool _, fun w => rfl⟩
  · cases h

theorem elemAddr_ok {β : Inj} {a a' : Addr} (h : AR β a a') {k : Nat} {b : Addr} (he : elemAddr a k = some b) : AR β b (a'.add k) := by
  cases h with
  | @new b o B s N k' h => simp [elemAddr] at he; subst he; rw [Addr.add_none, Nat.add_assoc]; exact .new h
  | base => simp [elemAddr] at he; subst he; rw [Addr.add_none]; exact .base
  | odd => simp [elemAddr] at he

/-- Of a slice: its place, whatever its capacity. -/
theorem sliceAt_ok {β : Inj} {a : Addr} {l c : Nat} {v : Value} (h : VR β (.slice (some a) l c) v) {k : Nat} {b : Addr} (he : elemAddr a k = some b) : ∃ a' c', v = .slice (some a') l c' ∧ AR β b (a'.add k) := by
  cases h with
  | slice h l c => exact ⟨_, _, rfl, elemAddr_ok h he⟩
  | @slack b o B s N k' h l c c' hc hn =>
    simp [elemAddr] at he; subst he
    exact ⟨_, _, rfl, by rw [Addr.add_none, Nat.add_assoc]; exact .new h⟩
  | opq a' c' => simp [elemAddr] at he

end Go.Proofs.Ytadfhabapgipbaa.V
