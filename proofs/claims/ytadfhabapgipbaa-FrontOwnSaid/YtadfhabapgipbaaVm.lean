/- What a run does not reach stays as it is: blocks that are dead in one heap may be anything in the other.
   No condition: these are laws of the clean machine. -/
import Derived.Test.YtadfhabapgipbaaV13
namespace Go.Proofs.Ytadfhabapgipbaa.V
open Go
set_option linter.unusedVariables false
set_option linter.unusedSimpArgs false

/-- 'f' is 'h', but for the blocks of S, which are dead in it. -/
structure Msk (S : Nat → Bool) (f h : Heap) : Prop where
  base : h.base = f.base
  lim : h.lim = f.lim
  n : h.n = f.n
  dead : ∀ b, S b = true → f.get b = some .dead
  get : ∀ b, S b = false → h.get b = f.get b
  lt : ∀ b, S b = true → b < f.n

def Kept (S : Nat → Bool) (h h' : Heap) : Prop := ∀ b, S b = true → h'.get b = h.get b
theorem Kept.refl (S : Nat → Bool) (h : Heap) : Kept S h h := fun _ _ => rfl
theorem Kept.trans {S : Nat → Bool} {a b c : Heap} (h : Kept S a b) (k : Kept S b c) : Kept S a c := fun x hx => (k x hx).trans (h x hx)

namespace Msk
variable {S : Nat → Bool} {f h : Heap}
theorem out (m : Msk S f h) {b : Nat} {o : O} (hb : f.get b = some o) (ho : o ≠ .dead) : S b = false := by
  cases e : S b
  · rfl
  · rw [m.dead b e] at hb; cases hb; exact absurd rfl ho
theorem cells (m : Msk S f h) {b : Nat} {c : List Value} {T : TypeId} (hb : f.get b = some (.cells c T)) : h.get b = some (.cells c T) := by
  rw [m.get b (m.out hb (by intro e; cases e))]; exact hb
theorem map (m : Msk S f h) {b : Nat} {es : List (Value × Value)} (hb : f.get b = some (.map es)) : h.get b = some (.map es) := by
  rw [m.get b (m.out hb (by intro e; cases e))]; exact hb
theorem cellAt (m : Msk S f h) {a : Addr} {v : Value} (hc : V.cellAt f a = some v) : V.cellAt h a = some v := by
  unfold V.cellAt at hc ⊢
  split at hc
  · split at hc
    · rename_i c T hg; rw [m.cells hg]; exact hc
    · cases hc
  · rw [m.base]; exact hc
  · cases hc
theorem baseCells (m : Msk S f h) (b : Nat) : ∀ (n o : Nat), V.baseCells h b o n = V.baseCells f b o n
  | 0, o => rfl
  | n + 1, o => by simp only [V.baseCells, m.base, Msk.baseCells m b n]
theorem cellsAt (m : Msk S f h) {a : Addr} {n : Nat} {l : List Value} (hc : V.cellsAt f a n = some l) : V.cellsAt h a n = some l := by
  unfold V.cellsAt at hc ⊢
  split at hc
  · split at hc
    · rename_i c T hg; rw [m.cells hg]; exact hc
    · cases hc
  · rw [m.baseCells]; exact hc
  · cases hc
theorem mapOf (m : Msk S f h) {v : Value} {es : List (Value × Value)} (hc : V.mapOf f v = some es) : V.mapOf h v = some es := by
  unfold V.mapOf at hc ⊢
  split at hc
  · exact hc
  · split at hc
    · rename_i hg; rw [m.map hg]; exact hc
    · cases hc
  · cases hc
theorem slack (m : Msk S f h) {a : Addr} {t : TypeId} (hc : slackOk f a t = true) : slackOk h a t = true := by
  unfold slackOk at hc ⊢
  split at hc
  · split at hc
    · rename_i hg; rw [m.cells hg]; exact hc
    · cases hc
  · exact hc
theorem set (m : Msk S f h) {b : Nat} (hb : S b = false) (o : O) : Msk S (f.set b o) (h.set b o) ∧ Kept S h (h.set b o) := by
  have ne : ∀ x, S x = true → b ≠ x := by intro x hx e; subst e; rw [hb] at hx; cases hx
  exact ⟨⟨m.base, m.lim, m.n, fun x hx => by rw [get_set, if_neg (ne x hx)]; exact m.dead x hx,
    fun x hx => by rw [get_set, get_set]; split
                   · rfl
                   · exact m.get x hx,
    m.lt⟩, fun x hx => by rw [get_set, if_neg (ne x hx)]⟩
theorem alloc (m : Msk S f h) (o : O) : Msk S (f.alloc o) (h.alloc o) ∧ Kept S h (h.alloc o) := by
  have ne : ∀ x, S x = true → ¬ f.n = x := by intro x hx e; have := m.lt x hx; omega
  exact ⟨⟨m.base, m.lim, by show h.n + 1 = f.n + 1; rw [m.n], fun x hx => by rw [get_alloc, if_neg (ne x hx)]; exact m.dead x hx,
    fun x hx => by rw [get_alloc, get_alloc, m.n]; split
                   · rfl
                   · exact m.get x hx,
    fun x hx => Nat.lt_succ_of_lt (m.lt x hx)⟩, fun x hx => by rw [get_alloc, m.n, if_neg (ne x hx)]⟩
theorem limN (m : Msk S f h) : Msk S { f with lim := f.n } { h with lim := h.n } := ⟨m.base, m.n, m.n, m.dead, m.get, m.lt⟩

theorem loadV (m : Msk S f h) {E : Env} {t : TypeId} {a : Addr} {v : Value} (hc : V.loadV E f t a = some v) : V.loadV E h t a = some v := by
  unfold V.loadV at hc ⊢
  split at hc
  · split at hc
    · rename_i n hn
      cases e : V.cellsAt f a n with
      | none => rw [e] at hc; cases hc
      | some l => rw [e] at hc; rw [m.cellsAt e]; exact hc
    · cases hc
  · exact m.cellAt hc
  · cases hc
theorem sliceV (m : Msk S f h) {E : Env} {t : TypeId} {x v : Value} {lo hi mx : Option Value} (hc : V.sliceV E f t x lo hi mx = some v) : V.sliceV E h t x lo hi mx = some v := by
  unfold V.sliceV at hc ⊢
  split at hc
  · exact hc
  · split at hc
    · cases hc
    · rename_i m' hm
      cases e0 : mx.isSome && hi.isNone with
      | true => rw [e0] at hc; cases hc
      | false =>
        rw [e0] at hc
        simp only [cond_false] at hc ⊢
        split at hc
        · cases hc
        · split at hc
          · cases hc
          · split at hc
            · cases hc
            · split at hc
              · exact hc
              · rename_i a
                cases e1 : (Nat.ble _ m' && (mx.isSome || slackOk f a _)) with
                | false => rw [e1] at hc; cases hc
                | true =>
                  rw [e1] at hc
                  have e2 := e1
                  simp only [Bool.and_eq_true, Bool.or_eq_true] at e2
                  have q2 : (mx.isSome = true ∨ slackOk h a _ = true) := e2.2.imp id m.slack
                  have q3 := (Bool.and_eq_true _ _).mpr ⟨e2.1, (Bool.or_eq_true _ _).mpr q2⟩
                  rw [q3]
                  exact hc
  · cases hc
theorem lookupV (m : Msk S f h) {E : Env} {t : TypeId} {x k v : Value} {ok : Bool} (hc : V.lookupV E f t x k ok = some v) : V.lookupV E h t x k ok = some v := by
  unfold V.lookupV at hc ⊢
  split at hc
  · split at hc
    · cases e : V.mapOf f x with
      | none => rw [e] at hc; cases hc
      | some es => rw [e] at hc; rw [m.mapOf e]; exact hc
    · cases hc
  · cases hc
theorem lenV (m : Msk S f h) {E : Env} {t : TypeId} {x v : Value} (hc : V.lenV E f t x = some v) : V.lenV E h t x = some v := by
  unfold V.lenV at hc ⊢
  split at hc
  · exact hc
  · exact hc
  · split at hc
    · rename_i es e
      rw [m.mapOf e]; exact hc
    · cases hc
  · exact hc
  · cases hc
theorem readV (m : Msk S f h) {E : Env} {fr : Fr} {op : Op} {v : Value} (hc : V.readV E fr f op = some v) : V.readV E fr h op = some v := by
  cases op
  case load t x =>
    unfold V.readV at hc ⊢; dsimp only at hc ⊢; split at hc
    · exact m.loadV hc
    · cases hc
  case slice t x lo hi mx =>
    unfold V.readV at hc ⊢; dsimp only at hc ⊢; split at hc
    · exact m.sliceV hc
    · cases hc
  case lookup t x k ok =>
    unfold V.readV at hc ⊢; dsimp only at hc ⊢; split at hc
    · exact m.lookupV hc
    · cases hc
  case call c =>
    unfold V.readV at hc ⊢; dsimp only at hc ⊢
    split at hc
    · split at hc
      · split at hc
        · exact m.lenV hc
        · cases hc
      · cases hc
    all_goals exact hc
  all_goals exact hc

theorem storeCells (m : Msk S f h) {a : Addr} {vs : List Value} {f' : Heap} (hc : V.storeCells f a vs = some f') : ∃ h', V.storeCells h a vs = some h' ∧ Msk S f' h' ∧ Kept S h h' := by
  unfold V.storeCells at hc ⊢
  split at hc
  · split at hc
    · rename_i c T hg
      cases e1 : (Nat.ble f.lim a.block && Nat.ble (a.off + vs.length) c.length && vs.all cellOk) with
      | false => rw [e1] at hc; cases hc
      | true =>
        rw [e1] at hc
        simp only [cond_true, Option.some.injEq] at hc
        subst hc
        rw [m.cells hg]
        dsimp only
        rw [m.lim, e1]
        exact ⟨_, rfl, m.set (m.out hg (by intro e; cases e)) _⟩
    · cases hc
  · cases hc
theorem storeV (m : Msk S f h) {E : Env} {t : TypeId} {a v : Value} {f' : Heap} (hc : V.storeV E f t a v = some f') : ∃ h', V.storeV E h t a v = some h' ∧ Msk S f' h' ∧ Kept S h h' := by
  unfold V.storeV at hc ⊢
  split at hc
  · split at hc
    · rename_i k hk
      cases e1 : Nat.beq v.cells.size k with
      | false => rw [e1] at hc; cases hc
      | true => rw [e1] at hc; exact m.storeCells hc
    · cases hc
  · cases hc
theorem firstV (m : Msk S f h) {k n : Nat} {x : Value} {l : List Value} (hc : V.firstV f k n x = some l) : V.firstV h k n x = some l := by
  unfold V.firstV at hc ⊢
  split at hc
  · cases e1 : Nat.beq (n * k) 0 with
    | true => rw [e1] at hc; exact hc
    | false =>
      rw [e1] at hc
      simp only [cond_false] at hc ⊢
      split at hc
      · exact m.cellsAt hc
      · cases hc
  · exact hc
  · exact hc
  · cases hc
theorem newV (m : Msk S f h) {E : Env} {t k b : Nat} {z : Bool} {x : Value} {r : Nat × List Value} (hc : V.newV E f t k b z x = some r) : V.newV E h t k b z x = some r := by
  unfold V.newV at hc ⊢
  cases z
  · simp only [cond_false] at hc ⊢
    split at hc
    · rename_i n hn
      cases e : V.firstV f k n x with
      | none => rw [e] at hc; cases hc
      | some c => rw [e] at hc; rw [m.firstV e]; exact hc
    · cases hc
  · exact hc
theorem putV (m : Msk S f h) {a : Option Addr} {l c n k : Nat} {new : List Value} {v : Value} {f' : Heap} (hc : V.putV f a l c n k new = some (v, f')) :
    ∃ h', V.putV h a l c n k new = some (v, h') ∧ Msk S f' h' ∧ Kept S h h' := by
  unfold V.putV at hc ⊢
  cases e1 : Nat.beq (n * k) 0 with
  | true =>
    rw [e1] at hc
    simp only [cond_true, Option.some.injEq, Prod.mk.injEq] at hc ⊢
    obtain ⟨h1, h2⟩ := hc
    subst h1 h2
    exact ⟨h, ⟨rfl, rfl⟩, m, Kept.refl _ _⟩
  | false =>
    rw [e1] at hc
    simp only [cond_false] at hc ⊢
    split at hc
    · cases hc
    · split at hc
      · cases hc
      · split at hc
        · rename_i h2 hs
          simp only [Option.some.injEq, Prod.mk.injEq] at hc
          obtain ⟨h1, h2⟩ := hc
          subst h1 h2
          obtain ⟨h', e, m', k'⟩ := m.storeCells hs
          rw [e]
          exact ⟨h', rfl, m', k'⟩
        · cases hc
theorem growV (m : Msk S f h) {a : Option Addr} {l c n k el : Nat} {new : List Value} {v : Value} {f' : Heap} (hc : V.growV f a l c n k el new = some (v, f')) :
    ∃ h', V.growV h a l c n k el new = some (v, h') ∧ Msk S f' h' ∧ Kept S h h' := by
  unfold V.growV at hc ⊢
  split at hc
  · cases e1 : Nat.beq l 0 with
    | false => rw [e1] at hc; cases hc
    | true =>
      rw [e1] at hc
      simp only [cond_true, Option.some.injEq, Prod.mk.injEq] at hc ⊢
      obtain ⟨h1, h2⟩ := hc
      subst h1 h2
      exact ⟨_, ⟨by rw [m.n], rfl⟩, m.alloc _⟩
  · rename_i a
    cases e0 : isSlack a with
    | true =>
      rw [e0] at hc
      simp only [cond_true] at hc ⊢
      split at hc
      · rename_i c' T hg
        rw [m.cells hg]
        dsimp only
        rw [m.lim]
        cases e1 : (Nat.ble f.lim a.block && Nat.beq T el && Nat.ble (a.off + l * k) c'.length && new.all cellOk) with
        | false => rw [e1] at hc; cases hc
        | true =>
          rw [e1] at hc
          simp only [cond_true, Option.some.injEq, Prod.mk.injEq] at hc ⊢
          obtain ⟨h1, h2⟩ := hc
          subst h1 h2
          obtain ⟨m1, k1⟩ := m.set (m.out hg (by intro e; cases e)) .dead
          obtain ⟨m2, k2⟩ := m1.alloc (.cells ((c'.drop a.off).take (l * k) ++ new) el)
          exact ⟨_, ⟨by rw [m.n], rfl⟩, m2, k1.trans k2⟩
      · cases hc
    | false =>
      rw [e0] at hc
      simp only [cond_false] at hc ⊢
      split at hc
      · cases hc
      · split at hc
        · rename_i old ho
          simp only [Option.some.injEq, Prod.mk.injEq] at hc
          obtain ⟨h1, h2⟩ := hc
          subst h1 h2
          rw [m.firstV ho]
          simp only [m.n]
          exact ⟨_, rfl, m.alloc _⟩
        · cases hc
theorem appendV (m : Msk S f h) {E : Env} {ts : Array TypeId} {s x v : Value} {f' : Heap} (hc : V.appendV E f ts s x = some (v, f')) :
    ∃ h', V.appendV E h ts s x = some (v, h') ∧ Msk S f' h' ∧ Kept S h h' := by
  unfold V.appendV at hc ⊢
  split at hc
  · cases hc
  · split at hc
    · split at hc
      · split at hc
        · rename_i elem hel _ _ _ _ k bytes z zs e1 e2 e3 e4 _ base len cap
          cases e5 : V.newV E f elem k bytes zs x with
          | none => rw [e5] at hc; cases hc
          | some r =>
            obtain ⟨n, new⟩ := r
            rw [e5] at hc; rw [m.newV e5]
            dsimp only at hc ⊢
            cases e6 : Nat.beq new.length (n * k) with
            | false => rw [e6] at hc; cases hc
            | true =>
              rw [e6] at hc
              simp only [cond_true] at hc ⊢
              cases e7 : Nat.ble (len + n) cap with
              | true => rw [e7] at hc; exact m.putV hc
              | false =>
                rw [e7] at hc
                simp only [cond_false] at hc ⊢
                cases e8 : roomy (len + n) bytes && Nat.beq z.cells.size k with
                | false => rw [e8] at hc; cases hc
                | true => rw [e8] at hc; exact m.growV hc
        · cases hc
      · cases hc
    · cases hc
theorem copyV (m : Msk S f h) {E : Env} {ts : Array TypeId} {s x v : Value} {f' : Heap} (hc : V.copyV E f ts s x = some (v, f')) :
    ∃ h', V.copyV E h ts s x = some (v, h') ∧ Msk S f' h' ∧ Kept S h h' := by
  unfold V.copyV at hc ⊢
  split at hc
  · cases hc
  · split at hc
    · split at hc
      · rename_i k base len cap n e1 e2
        cases e5 : V.firstV f k (Nat.min n len) x with
        | none => rw [e5] at hc; cases hc
        | some c =>
          rw [e5] at hc; rw [m.firstV e5]
          dsimp only at hc ⊢
          cases e6 : !Nat.beq c.length (Nat.min n len * k) with
          | true => rw [e6] at hc; cases hc
          | false =>
            rw [e6] at hc
            simp only [cond_false] at hc ⊢
            cases e7 : Nat.beq (Nat.min n len * k) 0 with
            | true =>
              rw [e7] at hc
              simp only [cond_true, Option.some.injEq, Prod.mk.injEq] at hc ⊢
              obtain ⟨h1, h2⟩ := hc
              subst h1 h2
              exact ⟨h, ⟨rfl, rfl⟩, m, Kept.refl _ _⟩
            | false =>
              rw [e7] at hc
              simp only [cond_false] at hc ⊢
              split at hc
              · cases hc
              · split at hc
                · cases hc
                · split at hc
                  · rename_i h2 hs
                    simp only [Option.some.injEq, Prod.mk.injEq] at hc
                    obtain ⟨h1, h2⟩ := hc
                    subst h1 h2
                    obtain ⟨h', e, m', k'⟩ := m.storeCells hs
                    rw [e]
                    exact ⟨h', rfl, m', k'⟩
                  · cases hc
      · cases hc
    · cases hc
theorem clearV (m : Msk S f h) {E : Env} {ts : Array TypeId} {x v : Value} {f' : Heap} (hc : V.clearV E f ts x = some (v, f')) :
    ∃ h', V.clearV E h ts x = some (v, h') ∧ Msk S f' h' ∧ Kept S h h' := by
  unfold V.clearV at hc ⊢
  split at hc
  · cases hc
  · split at hc
    · split at hc
      · simp only [Option.some.injEq, Prod.mk.injEq] at hc
        obtain ⟨h1, h2⟩ := hc
        subst h1 h2
        exact ⟨h, rfl, m, Kept.refl _ _⟩
      · rename_i a n cap
        cases e7 : Nat.beq n 0 with
        | true =>
          rw [e7] at hc
          simp only [cond_true, Option.some.injEq, Prod.mk.injEq] at hc ⊢
          obtain ⟨h1, h2⟩ := hc
          subst h1 h2
          exact ⟨h, ⟨rfl, rfl⟩, m, Kept.refl _ _⟩
        | false =>
          rw [e7] at hc
          simp only [cond_false] at hc ⊢
          split at hc
          · split at hc
            · cases hc
            · split at hc
              · rename_i h2 hs
                simp only [Option.some.injEq, Prod.mk.injEq] at hc
                obtain ⟨h1, h2⟩ := hc
                subst h1 h2
                obtain ⟨h', e, m', k'⟩ := m.storeCells hs
                rw [e]
                exact ⟨h', rfl, m', k'⟩
              · cases hc
          · cases hc
      · cases hc
    · split at hc
      · simp only [Option.some.injEq, Prod.mk.injEq] at hc
        obtain ⟨h1, h2⟩ := hc
        subst h1 h2
        exact ⟨h, rfl, m, Kept.refl _ _⟩
      · split at hc
        · rename_i r _ es hg
          cases e7 : Nat.ble f.lim r with
          | false => rw [e7] at hc; cases hc
          | true =>
            rw [e7] at hc
            simp only [cond_true, Option.some.injEq, Prod.mk.injEq] at hc ⊢
            obtain ⟨h1, h2⟩ := hc
            subst h1 h2
            rw [m.map hg]
            simp only [m.lim, e7, cond_true]
            exact ⟨_, rfl, m.set (m.out hg (by intro e; cases e)) _⟩
        · cases hc
      · cases hc
    · cases hc
theorem deleteV (m : Msk S f h) {E : Env} {ts : Array TypeId} {x k v : Value} {f' : Heap} (hc : V.deleteV E f ts x k = some (v, f')) :
    ∃ h', V.deleteV E h ts x k = some (v, h') ∧ Msk S f' h' ∧ Kept S h h' := by
  unfold V.deleteV at hc ⊢
  split at hc
  · cases hc
  · split at hc
    · split at hc
      · split at hc
        · simp only [Option.some.injEq, Prod.mk.injEq] at hc
          obtain ⟨h1, h2⟩ := hc
          subst h1 h2
          exact ⟨h, rfl, m, Kept.refl _ _⟩
        · split at hc
          · rename_i r _ es hg
            cases e7 : Nat.ble f.lim r with
            | false => rw [e7] at hc; cases hc
            | true =>
              rw [e7] at hc
              rw [m.map hg]
              simp only [cond_true, m.lim, e7] at hc ⊢
              split at hc
              · simp only [Option.some.injEq, Prod.mk.injEq] at hc
                obtain ⟨h1, h2⟩ := hc
                subst h1 h2
                exact ⟨_, rfl, m.set (m.out hg (by intro e; cases e)) _⟩
              · simp only [Option.some.injEq, Prod.mk.injEq] at hc
                obtain ⟨h1, h2⟩ := hc
                subst h1 h2
                exact ⟨_, rfl, m.set (m.out hg (by intro e; cases e)) _⟩
              · cases hc
          · cases hc
        · cases hc
      · cases hc
    · cases hc
theorem updateV (m : Msk S f h) {E : Env} {t : TypeId} {x k v : Value} {f' : Heap} (hc : V.updateV E f t x k v = some f') :
    ∃ h', V.updateV E h t x k v = some h' ∧ Msk S f' h' ∧ Kept S h h' := by
  unfold V.updateV at hc ⊢
  split at hc
  · split at hc
    · split at hc
      · rename_i r _ _ es hg
        cases e7 : Nat.ble f.lim r with
        | false => rw [e7] at hc; cases hc
        | true =>
          rw [e7] at hc
          rw [m.map hg]
          simp only [cond_true, m.lim, e7] at hc ⊢
          split at hc
          · simp only [Option.some.injEq] at hc
            subst hc
            exact ⟨_, rfl, m.set (m.out hg (by intro e; cases e)) _⟩
          · simp only [Option.some.injEq] at hc
            subst hc
            exact ⟨_, rfl, m.set (m.out hg (by intro e; cases e)) _⟩
          · cases hc
      · cases hc
    · cases hc
  · cases hc

theorem mkMapV (m : Msk S f h) {E : Env} {t : TypeId} {r : Option Operand} {v : Value} {f' : Heap} (hc : V.mkMapV E f t r = some (v, f')) :
    ∃ h', V.mkMapV E h t r = some (v, h') ∧ Msk S f' h' ∧ Kept S h h' := by
  unfold V.mkMapV at hc ⊢
  split at hc
  · simp only [Option.some.injEq, Prod.mk.injEq] at hc
    obtain ⟨h1, h2⟩ := hc
    subst h1 h2
    exact ⟨_, by rw [m.n], m.alloc _⟩
  · split at hc
    · simp only [Option.some.injEq, Prod.mk.injEq] at hc
      obtain ⟨h1, h2⟩ := hc
      subst h1 h2
      exact ⟨_, by rw [m.n], m.alloc _⟩
    · cases hc
  · cases hc
theorem writeV (m : Msk S f h) {E : Env} {fr : Fr} {op : Op} {v : Value} {f' : Heap} (hc : V.writeV E fr f op = some (v, f')) :
    ∃ h', V.writeV E fr h op = some (v, h') ∧ Msk S f' h' ∧ Kept S h h' := by
  cases op
  case alloc t =>
    unfold V.writeV at hc ⊢; dsimp only at hc ⊢
    split at hc
    · simp only [Option.some.injEq, Prod.mk.injEq] at hc
      obtain ⟨h1, h2⟩ := hc
      subst h1 h2
      exact ⟨_, by rw [m.n], m.alloc _⟩
    · cases hc
  case box t x =>
    unfold V.writeV at hc ⊢; dsimp only at hc ⊢
    split at hc
    · simp only [Option.some.injEq, Prod.mk.injEq] at hc
      obtain ⟨h1, h2⟩ := hc
      subst h1 h2
      exact ⟨_, by rw [m.n], m.alloc _⟩
    · cases hc
  case buildSlice t len parts =>
    unfold V.writeV at hc ⊢; dsimp only at hc ⊢
    split at hc
    · split at hc
      · rename_i k z _ _
        cases e1 : (Nat.ble (len * k) 16777216 && Nat.beq z.cells.size k) with
        | false => rw [e1] at hc; cases hc
        | true =>
          rw [e1] at hc
          simp only [cond_true] at hc ⊢
          split at hc
          · simp only [Option.some.injEq, Prod.mk.injEq] at hc
            obtain ⟨h1, h2⟩ := hc
            subst h1 h2
            exact ⟨_, by rw [m.n], m.alloc _⟩
          · cases hc
      · cases hc
    · cases hc
  case makeMap t r =>
    unfold V.writeV at hc ⊢; dsimp only at hc ⊢
    exact m.mkMapV hc
  case makeSlice t l c =>
    unfold V.writeV at hc ⊢; dsimp only at hc ⊢
    split at hc
    · split at hc
      · rename_i l c _ _ _ _ _ k b z _ _ _
        revert hc
        generalize (and _ (Nat.beq z.cells.size k)) = q
        intro hc
        cases q with
        | true =>
          simp only [cond_true, Option.some.injEq, Prod.mk.injEq] at hc ⊢
          obtain ⟨h1, h2⟩ := hc
          subst h1 h2
          exact ⟨_, ⟨by rw [m.n], rfl⟩, m.alloc _⟩
        | false => cases hc
      · cases hc
    · cases hc
  case store t a x =>
    unfold V.writeV at hc ⊢; dsimp only at hc ⊢
    split at hc
    · split at hc
      · rename_i h2 hs
        simp only [Option.some.injEq, Prod.mk.injEq] at hc
        obtain ⟨h1, h2⟩ := hc
        subst h1 h2
        obtain ⟨h', e, m', k'⟩ := m.storeV hs
        rw [e]
        exact ⟨h', rfl, m', k'⟩
      · cases hc
    · cases hc
  case mapUpdate t x k y =>
    unfold V.writeV at hc ⊢; dsimp only at hc ⊢
    split at hc
    · split at hc
      · rename_i h2 hs
        simp only [Option.some.injEq, Prod.mk.injEq] at hc
        obtain ⟨h1, h2⟩ := hc
        subst h1 h2
        obtain ⟨h', e, m', k'⟩ := m.updateV hs
        rw [e]
        exact ⟨h', rfl, m', k'⟩
      · cases hc
    · cases hc
  case insert t x k y =>
    unfold V.writeV at hc ⊢; dsimp only at hc ⊢
    split at hc
    · split at hc
      · rename_i h2 hs
        simp only [Option.some.injEq, Prod.mk.injEq] at hc
        obtain ⟨h1, h2⟩ := hc
        subst h1 h2
        obtain ⟨h', e, m', k'⟩ := m.updateV hs
        rw [e]
        exact ⟨h', rfl, m', k'⟩
      · cases hc
    · cases hc
  case call c =>
    unfold V.writeV at hc ⊢; dsimp only at hc ⊢
    split at hc
    · split at hc
      · exact m.appendV hc
      · cases hc
    · split at hc
      · exact m.copyV hc
      · cases hc
    · split at hc
      · exact m.clearV hc
      · cases hc
    · split at hc
      · exact m.deleteV hc
      · cases hc
    · cases hc
  all_goals (unfold V.writeV at hc; cases hc)

end Msk

/-! ### The machine -/
def Framed (call : FuncId → List Value → Heap → Option (Value × Heap)) : Prop :=
  ∀ (S : Nat → Bool) (f h : Heap) (g : FuncId) (args : List Value) (v : Value) (f' : Heap), Msk S f h → call g args f = some (v, f') →
    ∃ h', call g args h = some (v, h') ∧ Msk S f' h' ∧ Kept S h h'

/-- What is read, or called, isn't written. -/
theorem read_none_of_write {E : Env} {fr : Fr} {h h' : Heap} {op : Op} {r : Value × Heap} (hc : writeV E fr h op = some r) : readV E fr h' op = none := by
  cases op
  case call c =>
    unfold V.writeV at hc; dsimp only at hc
    unfold V.readV; dsimp only
    split at hc
    · rename_i e; rw [e]
    · rename_i e; rw [e]
    · rename_i e; rw [e]
    · rename_i e; rw [e]
    · cases hc
  all_goals first
    | rfl
    | (unfold V.writeV at hc; cases hc)
theorem read_none_of_callee {E : Env} {fr : Fr} {h' : Heap} {op : Op} {r : FuncId × List Value} (hc : calleeV E fr op = some r) : readV E fr h' op = none := by
  cases op
  case call c =>
    unfold V.calleeV at hc; dsimp only at hc
    unfold V.readV; dsimp only
    split at hc
    · rename_i e; rw [e]
    · rename_i e; rw [e]
    · cases hc
  all_goals (unfold V.calleeV at hc; cases hc)
theorem write_none_of_callee {E : Env} {fr : Fr} {h' : Heap} {op : Op} {r : FuncId × List Value} (hc : calleeV E fr op = some r) : writeV E fr h' op = none := by
  cases op
  case call c =>
    unfold V.calleeV at hc; dsimp only at hc
    unfold V.writeV; dsimp only
    split at hc
    · rename_i e; rw [e]
    · rename_i e; rw [e]
    · cases hc
  all_goals (unfold V.calleeV at hc; cases hc)

section
variable {S : Nat → Bool} {E : Env} {call : FuncId → List Value → Heap → Option (Value × Heap)}

theorem opV_msk (hF : Framed call) {f h : Heap} (m : Msk S f h) {fr : Fr} {op : Op} {v : Value} {f' : Heap} (hc : opV E call fr f op = some (v, f')) :
    ∃ h', opV E call fr h op = some (v, h') ∧ Msk S f' h' ∧ Kept S h h' := by
  unfold opV at hc
  split at hc
  · rename_i v' e
    simp only [Option.some.injEq, Prod.mk.injEq] at hc
    obtain ⟨h1, h2⟩ := hc
    subst h1 h2
    exact ⟨h, by unfold opV; rw [m.readV e], m, Kept.refl _ _⟩
  · split at hc
    · rename_i r e
      simp only [Option.some.injEq] at hc
      subst hc
      obtain ⟨h', e', m', k'⟩ := m.writeV e
      exact ⟨h', by unfold opV; rw [read_none_of_write e, e'], m', k'⟩
    · split at hc
      · rename_i g args e
        obtain ⟨h', e', m', k'⟩ := hF S f h g args v f' m hc
        exact ⟨h', by unfold opV; rw [read_none_of_callee e, write_none_of_callee e, e]; exact e', m', k'⟩
      · cases hc
theorem quietV_msk (hF : Framed call) {f h : Heap} (m : Msk S f h) {fr : Fr} {op : Op} {v : Value} (hc : quietV E call fr f op = some v) :
    quietV E call fr h op = some v := by
  unfold quietV at hc
  split at hc
  · rename_i v' e
    unfold quietV; rw [m.readV e]; exact hc
  · split at hc
    · rename_i g args e
      split at hc
      · rename_i v' f' e1
        obtain ⟨h', e', m', k'⟩ := hF S _ _ g args _ _ m.limN e1
        unfold quietV; rw [read_none_of_callee e, e]; dsimp only; rw [e']; exact hc
      · cases hc
    · cases hc
theorem runOps_msk (hF : Framed call) {nt : Nat} {ops : Array Oper} : ∀ (os : List Oper) {f h : Heap} (m : Msk S f h) {fr fr' : Fr} {f' : Heap} (hc : runOps E nt call ops os fr f = some (fr', f')),
    ∃ h', runOps E nt call ops os fr h = some (fr', h') ∧ Msk S f' h' ∧ Kept S h h' := by
  intro os
  induction os with
  | nil =>
    intro f h m fr fr' f' hc
    simp only [runOps, Option.some.injEq, Prod.mk.injEq] at hc
    obtain ⟨h1, h2⟩ := hc
    subst h1 h2
    exact ⟨h, rfl, m, Kept.refl _ _⟩
  | cons o r ih =>
    intro f h m fr fr' f' hc
    unfold runOps at hc ⊢
    cases e : wantedV ops fr o with
    | false =>
      rw [e] at hc
      simp only [cond_false] at hc ⊢
      split at hc
      · exact ih m hc
      · cases hc
    | true =>
      rw [e] at hc
      simp only [cond_true] at hc ⊢
      split at hc
      · rename_i v f1 e1
        obtain ⟨h1, e1', m1, k1⟩ := opV_msk hF m e1
        rw [e1']
        dsimp only
        split at hc
        · obtain ⟨h2, e2, m2, k2⟩ := ih m1 hc
          exact ⟨h2, e2, m2, k1.trans k2⟩
        · cases hc
      · cases hc
theorem runQuiet_msk (hF : Framed call) {nt : Nat} {ops : Array Oper} : ∀ (os : List Oper) {f h : Heap} (m : Msk S f h) {fr fr' : Fr} {f' : Heap} (hc : runQuiet E nt call ops os fr f = some (fr', f')),
    ∃ h', runQuiet E nt call ops os fr h = some (fr', h') ∧ Msk S f' h' ∧ Kept S h h' := by
  intro os
  induction os with
  | nil =>
    intro f h m fr fr' f' hc
    simp only [runQuiet, Option.some.injEq, Prod.mk.injEq] at hc
    obtain ⟨h1, h2⟩ := hc
    subst h1 h2
    exact ⟨h, rfl, m, Kept.refl _ _⟩
  | cons o r ih =>
    intro f h m fr fr' f' hc
    unfold runQuiet at hc ⊢
    cases e : wantedV ops fr o with
    | false =>
      rw [e] at hc
      simp only [cond_false] at hc ⊢
      split at hc
      · exact ih m hc
      · cases hc
    | true =>
      rw [e] at hc
      simp only [cond_true] at hc ⊢
      split at hc
      · rename_i v e1
        rw [quietV_msk hF m e1]
        dsimp only
        split at hc
        · exact ih m hc
        · cases hc
      · cases hc

theorem same_msk {f h f' h' : Heap} (m : Msk S f h) (m' : Msk S f' h') {fr : Fr} {op : Op} (c : same (readV E fr f op) (readV E fr f' op) = true) : same (readV E fr h op) (readV E fr h' op) = true := by
  cases e : readV E fr f op with
  | none => rw [e] at c; simp [same] at c
  | some v =>
    cases e' : readV E fr f' op with
    | none => rw [e, e'] at c; simp [same] at c
    | some v' => rw [m.readV e, m'.readV e']; rw [e, e'] at c; exact c
theorem chkR_msk {f h f' h' : Heap} (m : Msk S f h) (m' : Msk S f' h') {ops : Array Oper} {fr : Fr} : ∀ {ck : List Nat}, chkR E ops fr f f' ck = true → chkR E ops fr h h' ck = true
  | [], _ => rfl
  | r :: rs, c => by
    simp only [chkR, Bool.and_eq_true] at c ⊢
    refine ⟨?_, chkR_msk m m' c.2⟩
    have c1 := c.1
    cases ho : ops[r]? with
    | none => rw [ho] at c1; exact c1
    | some o =>
      rw [ho] at c1
      dsimp only at c1 ⊢
      cases w : wantedV ops fr o with
      | false => rfl
      | true =>
        rw [w] at c1
        simp only [Bool.not_true, Bool.false_or] at c1 ⊢
        exact same_msk m m' c1
theorem rsvV_msk {f h : Heap} (m : Msk S f h) {b : Nat} (hb : S b = false) {op : Op} {v : Value} {f' : Heap} (hc : rsvV E f b op = some (v, f')) :
    ∃ h', rsvV E h b op = some (v, h') ∧ Msk S f' h' ∧ Kept S h h' := by
  cases op <;> simp only [rsvV] at hc ⊢ <;> try (cases hc; done)
  split at hc
  · split at hc
    · rename_i z hz hg
      cases hc
      rw [m.get b hb, hg]
      exact ⟨_, rfl, m.set hb _⟩
    · cases hc
  · cases hc
def SlotsOut (S : Nat → Bool) (sl : List (Nat × Nat)) : Prop := ∀ i b, slotL sl i = some b → S b = false
theorem opS_msk (hF : Framed call) {sl : List (Nat × Nat)} {f h : Heap} (m : Msk S f h) {i : Nat} (hs : ∀ b, slotL sl i = some b → S b = false) {fr : Fr} {op : Op} {v : Value} {f' : Heap} (hc : opS E call sl i fr f op = some (v, f')) :
    ∃ h', opS E call sl i fr h op = some (v, h') ∧ Msk S f' h' ∧ Kept S h h' := by
  unfold opS at hc ⊢
  cases ha : allocK op with
  | false => rw [ha] at hc; exact opV_msk hF m hc
  | true =>
    rw [ha] at hc
    simp only [cond_true] at hc ⊢
    cases hb : slotL sl i with
    | none => rw [hb] at hc; cases hc
    | some b => rw [hb] at hc; exact rsvV_msk m (hs b hb) hc
theorem runSched_msk (hF : Framed call) {nt : Nat} {ops : Array Oper} {sl : List (Nat × Nat)} (hs : SlotsOut S sl) : ∀ (os : List (Nat × List Nat)) {f h : Heap} (m : Msk S f h) {fr fr' : Fr} {f' : Heap} (hc : runSched E nt call ops sl os fr f = some (fr', f')),
    ∃ h', runSched E nt call ops sl os fr h = some (fr', h') ∧ Msk S f' h' ∧ Kept S h h' := by
  intro os
  induction os with
  | nil =>
    intro f h m fr fr' f' hc
    simp only [runSched, Option.some.injEq, Prod.mk.injEq] at hc
    obtain ⟨h1, h2⟩ := hc
    subst h1 h2
    exact ⟨h, rfl, m, Kept.refl _ _⟩
  | cons o r ih =>
    intro f h m fr fr' f' hc
    obtain ⟨i, ck⟩ := o
    unfold runSched at hc ⊢
    cases ho : ops[i]? with
    | none => rw [ho] at hc; cases hc
    | some o =>
      rw [ho] at hc
      dsimp only at hc ⊢
      cases e : wantedV ops fr o with
      | false =>
        rw [e] at hc
        simp only [cond_false] at hc ⊢
        split at hc
        · exact ih m hc
        · cases hc
      | true =>
        rw [e] at hc
        simp only [cond_true] at hc ⊢
        split at hc
        · rename_i v f1 e1
          obtain ⟨h1, e1', m1, k1⟩ := opS_msk hF m (hs i) e1
          rw [e1']
          dsimp only
          obtain ⟨c, hc⟩ := bif_some hc
          rw [chkR_msk m m1 c]
          simp only [cond_true]
          split at hc
          · obtain ⟨h2, e2, m2, k2⟩ := ih m1 hc
            exact ⟨h2, e2, m2, k1.trans k2⟩
          · cases hc
        · cases hc

theorem slotsOf_ge : ∀ (l : List (Nat × Oper)) (n i b : Nat), slotL (slotsOf l n) i = some b → n ≤ b ∧ b < n + (slotsOf l n).length
  | [], n, i, b, h => by cases h
  | (j, o) :: r, n, i, b, h => by
    unfold slotsOf at h ⊢
    cases ha : allocK o.op with
    | true =>
      rw [ha] at h
      simp only [cond_true, slotL] at h
      simp only [cond_true, List.length_cons]
      cases e : Nat.beq j i with
      | true => rw [e] at h; simp only [cond_true, Option.some.injEq] at h; omega
      | false => rw [e] at h; have := slotsOf_ge r (n + 1) i b h; omega
    | false => rw [ha] at h; exact slotsOf_ge r n i b h
theorem resv_msk : ∀ (k : Nat) {f h : Heap}, Msk S f h → Msk S (resv k f) (resv k h) ∧ Kept S h (resv k h)
  | 0, f, h, m => ⟨m, Kept.refl _ _⟩
  | k + 1, f, h, m => by
    obtain ⟨m1, k1⟩ := m.alloc .dead
    obtain ⟨m2, k2⟩ := resv_msk k m1
    exact ⟨m2, k1.trans k2⟩
theorem runDrawn_msk (hF : Framed call) {nt : Nat} {ops : Array Oper} {f h : Heap} (m : Msk S f h) {fr fr' : Fr} {f' : Heap} (hc : runDrawn E nt call ops fr f = some (fr', f')) :
    ∃ h', runDrawn E nt call ops fr h = some (fr', h') ∧ Msk S f' h' ∧ Kept S h h' := by
  unfold runDrawn at hc ⊢
  rw [m.n]
  obtain ⟨m1, k1⟩ := resv_msk (slots ops f.n).length m
  have hs : SlotsOut S (slots ops f.n) := by
    intro i b hb
    have := (slotsOf_ge _ _ _ _ hb).1
    cases e : S b with
    | false => rfl
    | true => have := m.lt b e; omega
  obtain ⟨h', e, m2, k2⟩ := runSched_msk hF hs _ m1 hc
  exact ⟨h', e, m2, k1.trans k2⟩

/-- A code that runs. -/
def FramedC (F : Fr → Heap → Option (Ex × Fr × Heap)) : Prop :=
  ∀ (S : Nat → Bool) (f h : Heap) (fr : Fr) (x : Ex) (fr' : Fr) (f' : Heap), Msk S f h → F fr f = some (x, fr', f') → ∃ h', F fr h = some (x, fr', h') ∧ Msk S f' h' ∧ Kept S h h'

theorem iter_msk {F : Fr → Heap → Option (Ex × Fr × Heap)} (hF : FramedC F) : ∀ k, FramedC (iter F k) := by
  intro k
  induction k with
  | zero => intro S f h fr x fr' f' m hc; cases hc
  | succ k ih =>
    intro S f h fr x fr' f' m hc
    unfold iter at hc ⊢
    split at hc
    · rename_i fr1 f1 e1
      obtain ⟨h1, e1', m1, k1⟩ := hF _ _ _ _ _ _ _ m e1
      rw [e1']
      obtain ⟨h2, e2, m2, k2⟩ := ih _ _ _ _ _ _ _ m1 hc
      exact ⟨h2, e2, m2, k1.trans k2⟩
    · rename_i hne
      obtain ⟨h1, e1', m1, k1⟩ := hF _ _ _ _ _ _ _ m hc
      rw [e1']
      cases x with
      | normal => exact absurd hc (hne _ _)
      | exit i => exact ⟨h1, rfl, m1, k1⟩
      | ret => exact ⟨h1, rfl, m1, k1⟩

theorem evalC_msk (hF : Framed call) {nt lf : Nat} : ∀ c : Code, FramedC (evalC E nt call lf c) := by
  intro c
  induction c with
  | skip => intro S f h fr x fr' f' m hc; simp only [evalC, Option.some.injEq, Prod.mk.injEq] at hc ⊢; obtain ⟨h1, h2, h3⟩ := hc; subst h1 h2 h3; exact ⟨h, ⟨rfl, rfl, rfl⟩, m, Kept.refl _ _⟩
  | label l => intro S f h fr x fr' f' m hc; simp only [evalC, Option.some.injEq, Prod.mk.injEq] at hc ⊢; obtain ⟨h1, h2, h3⟩ := hc; subst h1 h2 h3; exact ⟨h, ⟨rfl, rfl, rfl⟩, m, Kept.refl _ _⟩
  | region id ops draw =>
    intro S f h fr x fr' f' m hc
    unfold evalC at hc ⊢
    cases draw with
    | true =>
      simp only [cond_true] at hc ⊢
      cases hq : quietR E.P ops with
      | false =>
       rw [hq] at hc
       simp only [cond_false] at hc ⊢
       split at hc
       · rename_i fr1 f1 e1
         obtain ⟨h', e', m', k'⟩ := runDrawn_msk hF m e1
         rw [e']
         simp only [Option.some.injEq, Prod.mk.injEq] at hc ⊢; obtain ⟨h1, h2, h3⟩ := hc; subst h1 h2 h3
         exact ⟨h', ⟨rfl, rfl, rfl⟩, m', k'⟩
       · cases hc
      | true =>
      rw [hq] at hc
      simp only [cond_true] at hc ⊢
      split at hc
      · rename_i fr1 f1 e1
        obtain ⟨h', e', m', k'⟩ := runQuiet_msk hF _ m e1
        rw [e']
        simp only [Option.some.injEq, Prod.mk.injEq] at hc ⊢; obtain ⟨h1, h2, h3⟩ := hc; subst h1 h2 h3
        exact ⟨h', ⟨rfl, rfl, rfl⟩, m', k'⟩
      · cases hc
    | false =>
      simp only [cond_false] at hc ⊢
      split at hc
      · rename_i fr1 f1 e1
        obtain ⟨h', e', m', k'⟩ := runOps_msk hF _ m e1
        rw [e']
        simp only [Option.some.injEq, Prod.mk.injEq] at hc ⊢; obtain ⟨h1, h2, h3⟩ := hc; subst h1 h2 h3
        exact ⟨h', ⟨rfl, rfl, rfl⟩, m', k'⟩
      · cases hc
  | seq a b iha ihb =>
    intro S f h fr x fr' f' m hc
    unfold evalC at hc ⊢
    split at hc
    · rename_i fr1 f1 e1
      obtain ⟨h1, e1', m1, k1⟩ := iha _ _ _ _ _ _ _ m e1
      rw [e1']
      obtain ⟨h2, e2, m2, k2⟩ := ihb _ _ _ _ _ _ _ m1 hc
      exact ⟨h2, e2, m2, k1.trans k2⟩
    · rename_i hne
      obtain ⟨h1, e1', m1, k1⟩ := iha _ _ _ _ _ _ _ m hc
      rw [e1']
      cases x with
      | normal => exact absurd hc (hne _ _)
      | exit i => exact ⟨h1, rfl, m1, k1⟩
      | ret => exact ⟨h1, rfl, m1, k1⟩
  | cond c a b iha ihb =>
    intro S f h fr x fr' f' m hc
    unfold evalC at hc ⊢
    split at hc
    · exact iha _ _ _ _ _ _ _ m hc
    · exact ihb _ _ _ _ _ _ _ m hc
    · cases hc
  | block id body ih =>
    intro S f h fr x fr' f' m hc
    unfold evalC at hc ⊢
    split at hc
    · rename_i i fr1 f1 e1
      obtain ⟨h1, e1', m1, k1⟩ := ih _ _ _ _ _ _ _ m e1
      rw [e1']
      dsimp only
      split at hc
      · rename_i hi
        rw [if_pos hi]
        simp only [Option.some.injEq, Prod.mk.injEq] at hc ⊢; obtain ⟨h1, h2, h3⟩ := hc; subst h1 h2 h3
        exact ⟨_, ⟨rfl, rfl, rfl⟩, m1, k1⟩
      · rename_i hi
        rw [if_neg hi]
        simp only [Option.some.injEq, Prod.mk.injEq] at hc ⊢; obtain ⟨h1, h2, h3⟩ := hc; subst h1 h2 h3
        exact ⟨_, ⟨rfl, rfl, rfl⟩, m1, k1⟩
    · rename_i hne
      obtain ⟨h1, e1', m1, k1⟩ := ih _ _ _ _ _ _ _ m hc
      rw [e1']
      cases x with
      | exit i => exact absurd hc (hne _ _ _)
      | normal => exact ⟨h1, rfl, m1, k1⟩
      | ret => exact ⟨h1, rfl, m1, k1⟩
  | loop body ih =>
    intro S f h fr x fr' f' m hc
    unfold evalC at hc ⊢
    exact iter_msk ih lf _ _ _ _ _ _ _ m hc
  | exit id => intro S f h fr x fr' f' m hc; simp only [evalC, Option.some.injEq, Prod.mk.injEq] at hc ⊢; obtain ⟨h1, h2, h3⟩ := hc; subst h1 h2 h3; exact ⟨h, ⟨rfl, rfl, rfl⟩, m, Kept.refl _ _⟩
  | scope body ih =>
    intro S f h fr x fr' f' m hc
    unfold evalC at hc ⊢
    exact ih _ _ _ _ _ _ _ m hc
  | ret => intro S f h fr x fr' f' m hc; simp only [evalC, Option.some.injEq, Prod.mk.injEq] at hc ⊢; obtain ⟨h1, h2, h3⟩ := hc; subst h1 h2 h3; exact ⟨h, ⟨rfl, rfl, rfl⟩, m, Kept.refl _ _⟩
  | _ => intro S f h fr x fr' f' m hc; simp only [evalC] at hc; cases hc

theorem resultsV_msk {f h : Heap} (m : Msk S f h) {fr : Fr} : ∀ (rs : List ResultVar) {l : List Value}, resultsV E fr f rs = some l → resultsV E fr h rs = some l := by
  intro rs
  induction rs with
  | nil => intro l hc; exact hc
  | cons r rs ih =>
    intro l hc
    unfold resultsV at hc ⊢
    split at hc
    · rename_i v e
      have : resultV E fr h r = some v := by
        unfold resultV at e ⊢
        split at e
        · exact e
        · split at e
          · exact m.loadV e
          · cases e
      rw [this]
      dsimp only
      split at hc
      · rename_i l' e'
        rw [ih e']; exact hc
      · cases hc
    · cases hc
end

/-- What is given from outside is framed. -/
def FramedE (E : Env) : Prop := ∀ g p, E.prim g = some p → Framed (fun _ => p)

theorem run_msk {E : Env} (hE : FramedE E) : ∀ n, Framed (run E n) := by
  intro n
  induction n with
  | zero => intro S f h g args v f' m hc; cases hc
  | succ n ih =>
    intro S f h g args v f' m hc
    unfold run at hc ⊢
    split at hc
    · rename_i p hp
      exact hE g p hp S f h g args v f' m hc
    · split at hc
      · cases hc
      · rename_i fn hfn
        split at hc
        · cases hc
        · rename_i c hb
          cases e0 : Nat.ble args.length fn.ntmps with
          | false => rw [e0] at hc; cases hc
          | true =>
            rw [e0] at hc
            simp only [cond_true] at hc ⊢
            split at hc
            · cases hc
            · rename_i x fr h1 hne e1
              obtain ⟨h2, e2, m2, k2⟩ := evalC_msk ih c _ _ _ _ _ _ _ m e1
              rw [e2]
              split at hc
              · rename_i l el
                simp only [Option.some.injEq, Prod.mk.injEq] at hc
                obtain ⟨q1, q2⟩ := hc
                subst q1 q2
                have er := resultsV_msk m2 _ el
                refine ⟨h2, ?_, m2, k2⟩
                cases x with
                | exit i => exact (hne _ rfl).elim
                | normal => dsimp only; rw [er]
                | ret => dsimp only; rw [er]
              · cases hc
            · cases hc

end Go.Proofs.Ytadfhabapgipbaa.V
